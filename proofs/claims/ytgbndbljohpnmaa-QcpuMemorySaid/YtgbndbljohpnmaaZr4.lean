/- Texts of the walk, merged (4): see the remark ahead of each. -/
import Derived.Test.YtgbndbljohpnmaaZr3
import Derived.Test.YtgbndbljohpnmaaProg
import Derived.Lib.ConvBytes
/- XQb -/
namespace Go.Proofs.Ytgbndbljohpnmaa
set_option linter.unusedVariables false
set_option linter.unusedSimpArgs false
open Go.RowKit
/-- A format. -/
structure Q.Sh where
  kn : Bool
  d : Bool
  a : Bool
  b : Bool
  kind : Int
  bits : Nat
  most : Int
def Q.Sh.cells (s : Q.Sh) : List Value := [.bool s.kn, .bool s.d, .bool s.a, .bool s.b, .int .i64 s.kind, .int .i64 ((s.bits : Nat) : Int), .int .u32 s.most]
def Q.Sh.val (s : Q.Sh) : Value := .agg #[.bool s.kn, .bool s.d, .bool s.a, .bool s.b, .int .i64 s.kind, .int .i64 ((s.bits : Nat) : Int), .int .u32 s.most]
def Q.sh0 : Q.Sh := ⟨false, false, false, false, 0, 0, 0⟩
/-- An instruction of Q. -/
structure Q.I where
  op : Int
  d : Int
  a : Int
  b : Int
  imm : Int
def Q.tabN (f : Nat → Q.Sh) : Nat → List Value
  | 0 => []
  | n + 1 => Q.tabN f n ++ (f n).cells
/-- The cells of all formats. -/
def Q.tab (f : Nat → Q.Sh) : List Value := Q.tabN f 64
def Q.upt (f : Nat → Q.Sh) (k : Nat) (s : Q.Sh) : Nat → Q.Sh := fun j => if j = k then s else f j
theorem Q.tabN_len (f : Nat → Q.Sh) : ∀ n, (Q.tabN f n).length = n * 7
  | 0 => rfl
  | n + 1 => by rw [Q.tabN, List.length_append, Q.tabN_len f n]; show n * 7 + 7 = _; omega
theorem Q.tabN_at (f : Nat → Q.Sh) (k j : Nat) (hj : j < 7) : ∀ n, k < n → (Q.tabN f n)[k * 7 + j]? = (f k).cells[j]?
  | 0, h => absurd h (Nat.not_lt_zero _)
  | n + 1, h => by
    rw [Q.tabN]
    by_cases e : k = n
    · subst e
      rw [List.getElem?_append_right (by rw [Q.tabN_len]; omega), Q.tabN_len]
      congr 1; omega
    · rw [List.getElem?_append_left (by rw [Q.tabN_len]; omega)]
      exact Q.tabN_at f k j hj n (by omega)
theorem Q.tab_len (f : Nat → Q.Sh) : (Q.tab f).length = 448 := Q.tabN_len f 64
theorem Q.tab_part (f : Nat → Q.Sh) (k : Nat) (hk : k < 64) : ((Q.tab f).drop (k * 7)).take 7 = (f k).cells := by
  refine List.ext_getElem? fun j => ?_
  rw [List.getElem?_take]
  by_cases hj : j < 7
  · rw [if_pos hj, List.getElem?_drop]; exact Q.tabN_at f k j hj 64 hk
  · rw [if_neg hj, List.getElem?_eq_none (by show (7 : Nat) ≤ j; omega)]
theorem Q.ld_tab {P : Program} {t : TypeId} {f : Nat → Q.Sh} {x : Int} (hu : (match P.underlying t with | some (.struct _) => true | _ => false) = true) (hs : (P.info? t).map (·.size) = some 7) (hx : 0 ≤ x ∧ x < 64) : E.ld P t (Q.tab f) (0 + x.toNat * 7) = some (f x.toNat).val := by
  have hk : x.toNat < 64 := by omega
  unfold E.ld
  cases hi0 : P.info? t with
  | none => rw [hi0] at hs; cases hs
  | some i =>
    rw [hi0] at hs
    simp only [Option.map_some, Option.some.injEq] at hs
    cases hd : P.underlying t with
    | none => rw [hd] at hu; cases hu
    | some d =>
      rw [hd] at hu
      cases d
      case struct fs =>
        show (bif Nat.ble (0 + x.toNat * 7 + i.size) (Q.tab f).length then some (Value.agg (((Q.tab f).drop (0 + x.toNat * 7)).take i.size).toArray) else none) = _
        rw [hs, Q.tab_len, show Nat.ble (0 + x.toNat * 7 + 7) 448 = true from Nat.ble_eq_true_of_le (by omega), Nat.zero_add, Q.tab_part f _ hk]; rfl
      all_goals cases hu
theorem Q.ld_all {P : Program} {t : TypeId} {f : Nat → Q.Sh} (hu : (match P.underlying t with | some (.array _ _) => true | _ => false) = true) (hs : (P.info? t).map (·.size) = some 448) : E.ld P t (Q.tab f) 0 = some (.agg (Q.tab f).toArray) := by
  unfold E.ld
  cases hi0 : P.info? t with
  | none => rw [hi0] at hs; cases hs
  | some i =>
    rw [hi0] at hs
    simp only [Option.map_some, Option.some.injEq] at hs
    cases hd : P.underlying t with
    | none => rw [hd] at hu; cases hu
    | some d =>
      rw [hd] at hu
      cases d
      case array n e =>
        show (bif Nat.ble (0 + i.size) (Q.tab f).length then some (Value.agg (((Q.tab f).drop 0).take i.size).toArray) else none) = _
        rw [hs, Q.tab_len, show Nat.ble (0 + 448) 448 = true from rfl, List.drop_zero, List.take_of_length_le (by rw [Q.tab_len]; exact Nat.le_refl _)]; rfl
      all_goals cases hu
theorem Q.tabN_cell (f : Nat → Q.Sh) : ∀ n, (Q.tabN f n).all E.cellB = true
  | 0 => rfl
  | n + 1 => by rw [Q.tabN, List.all_append, Q.tabN_cell f n]; rfl
theorem Q.tabN_cell' (f : Nat → Q.Sh) : (Q.tab f).all E.cellB = true := Q.tabN_cell f 64
theorem Q.lay_whole {cs us : List Value} (h : us.length = cs.length) : E.lay cs 0 us = us := by
  have := E.lay_at us [] cs (by omega)
  simp only [List.nil_append, List.length_nil] at this
  rw [this, List.drop_eq_nil_of_le (by omega), List.append_nil]
theorem Q.sto_all {P : Program} {t : TypeId} {f g : Nat → Q.Sh} (hs : (P.info? t).map (·.size) = some 448) : E.sto P t (Q.tab f) 0 (.agg (Q.tab g).toArray) = some (Q.tab g) := by
  unfold E.sto
  cases hi0 : P.info? t with
  | none => rw [hi0] at hs; cases hs
  | some i =>
    rw [hi0] at hs
    simp only [Option.map_some, Option.some.injEq] at hs
    show (bif Nat.beq (Q.tab g).toArray.size i.size && Nat.ble (0 + i.size) (Q.tab f).length && (Q.tab g).toArray.toList.all E.cellB then some (E.lay (Q.tab f) 0 (Q.tab g).toArray.toList) else none) = _
    rw [hs, Q.tab_len f, List.size_toArray, Q.tab_len g, List.toList_toArray, Q.tabN_cell', Q.lay_whole (by rw [Q.tab_len, Q.tab_len])]; rfl
theorem Q.lay_get : ∀ (vs cs : List Value) (j i : Nat), j + vs.length ≤ cs.length → (E.lay cs j vs)[i]? = if j ≤ i ∧ i < j + vs.length then vs[i - j]? else cs[i]?
  | [], cs, j, i, _ => by rw [if_neg (by simp), E.lay]
  | v :: vs, cs, j, i, h => by
    simp only [List.length_cons] at h ⊢
    rw [E.lay, Q.lay_get vs (cs.set j v) (j + 1) i (by simp; omega)]
    by_cases e : i = j
    · subst e
      rw [if_neg (by omega), if_pos (by omega), List.getElem?_set_self (by omega)]; simp
    · by_cases k : j + 1 ≤ i ∧ i < j + 1 + vs.length
      · rw [if_pos k, if_pos (by omega)]
        rw [show i - j = (i - (j + 1)) + 1 by omega]; rfl
      · rw [if_neg k, if_neg (by omega), List.getElem?_set_ne (by omega)]
theorem Q.lay_tab (f : Nat → Q.Sh) (k : Nat) (hk : k < 64) (s : Q.Sh) : E.lay (Q.tab f) (k * 7) s.cells = Q.tab (Q.upt f k s) := by
  refine List.ext_getElem? fun y => ?_
  rw [Q.lay_get _ _ _ _ (by rw [Q.tab_len]; show k * 7 + 7 ≤ 448; omega)]
  by_cases hy : y < 448
  · have e : y = y / 7 * 7 + y % 7 := by omega
    have h2 : (Q.tab (Q.upt f k s))[y]? = (Q.upt f k s (y / 7)).cells[y % 7]? := by
      have := Q.tabN_at (Q.upt f k s) (y / 7) (y % 7) (Nat.mod_lt _ (by decide)) 64 (by omega)
      rwa [← e] at this
    have h1 : (Q.tab f)[y]? = (f (y / 7)).cells[y % 7]? := by
      have := Q.tabN_at f (y / 7) (y % 7) (Nat.mod_lt _ (by decide)) 64 (by omega)
      rwa [← e] at this
    rw [h2]
    unfold Q.upt
    by_cases c : y / 7 = k
    · rw [if_pos ⟨by omega, by show y < k * 7 + 7; omega⟩, if_pos c, show y - k * 7 = y % 7 by omega]
    · rw [if_neg (by intro hh; have hh : k * 7 ≤ y ∧ y < k * 7 + 7 := hh; omega), if_neg c, h1]
  · rw [if_neg (by intro hh; have hh : k * 7 ≤ y ∧ y < k * 7 + 7 := hh; omega), List.getElem?_eq_none (by rw [Q.tab_len]; omega), List.getElem?_eq_none (by rw [Q.tab_len]; omega)]
theorem Q.sto_tab {P : Program} {t : TypeId} {f : Nat → Q.Sh} {k : Nat} {s : Q.Sh} (hs : (P.info? t).map (·.size) = some 7) (hk : k < 64) : E.sto P t (Q.tab f) (0 + ((k : Nat) : Int).toNat * 7) s.val = some (Q.tab (Q.upt f k s)) := by
  unfold E.sto
  cases hi0 : P.info? t with
  | none => rw [hi0] at hs; cases hs
  | some i =>
    rw [hi0] at hs
    simp only [Option.map_some, Option.some.injEq] at hs
    show (bif Nat.beq 7 i.size && Nat.ble (0 + k * 7 + i.size) (Q.tab f).length && true then some (E.lay (Q.tab f) (0 + k * 7) s.cells) else none) = _
    rw [hs, Q.tab_len, show Nat.ble (0 + k * 7 + 7) 448 = true from Nat.ble_eq_true_of_le (by omega), Nat.zero_add, Q.lay_tab f k hk s]; rfl
theorem A.of_hp {S : Nat → Prop} {w0 w : World} {X : World → Prop} {L : List (Nat × List Value)} (h : E.Hp S w0 X L w) (i : Nat) {g : Nat} {cs : List Value} (hL : L[i]? = some (g, cs)) (hne : cs.isEmpty = false) : A.Has [A.blk g cs] w (fun x => x = g) (fun x => x = g) := by
  have hm := List.mem_of_getElem? hL
  refine ⟨fun x => x = g, fun x => x = g, fun _ => False, fun _ => False, ⟨h.mem _ hm, h.fz _ hm, h.lt _ hm, fun _ => Iff.rfl, fun _ => Iff.rfl, ?_⟩, ⟨fun _ h => h, fun _ h => h⟩, fun _ _ h => h, fun _ h => h.elim, fun x => by simp, fun x => by simp⟩
  rintro rfl; cases hne
theorem Set1 {gt go : Nat} {f : Nat → Q.Sh} (s : Q.Sh) (o0 : Nat) (ho0 : o0 < 64) : A.Tr Try.prog 95 #[.agg #[.bool s.kn, .bool s.d, .bool s.a, .bool s.b, .int .i64 s.kind, .int .i64 ((s.bits : Nat) : Int), .int .u32 s.most], .slice (some ⟨go, 0, none⟩) 1 1, .pointer (some ⟨gt, 0, none⟩)] [A.blk gt (Q.tab f), A.blk go [.int .i64 ((o0 : Nat) : Int)]] (I := Unit) (fun _ => True) (fun _ => .tuple #[]) (fun _ => [A.blk gt (Q.tab (Q.upt f o0 (⟨true, s.d, s.a, s.b, s.kind, s.bits, s.most⟩))), A.blk go [.int .i64 ((o0 : Nat) : Int)]]) := by
 intro w oo aa hh
 refine E.enter (n := 18) (S := oo) Try.func95 rfl rfl (by kernel_rfl) (A.start (L := [(gt, (Q.tab f)), (go, [.int .i64 ((o0 : Nat) : Int)])]) hh) ?_
 refine E.sr ?_
 refine E.G.new (fun g => .pointer (some ⟨g, 0, none⟩)) [.bool s.kn, .bool s.d, .bool s.a, .bool s.b, .int .i64 s.kind, .int .i64 ((s.bits : Nat) : Int), .int .u32 s.most] 142 (fun w => by kernel_rfl) (by kernel_rfl) (fun g1 => ?_)
 refine E.tr ?_
 refine E.op (.pointer (some ⟨g1, 0, none⟩)) ?_
 refine E.st 0 [.bool true, .bool s.d, .bool s.a, .bool s.b, .int .i64 s.kind, .int .i64 ((s.bits : Nat) : Int), .int .u32 s.most] rfl rfl ?_
 refine E.tr ?_
 refine E.op (.slice (some ⟨go, 0, none⟩) 1 1) ?_
 refine E.op (.int .i64 1) ?_
 refine E.op (.int .i64 0) ?_
 refine E.To.code ?_
 refine E.C.block ?_
 refine E.C.rounds 1 ?_
 refine E.sr ?_
 refine E.op (.bool true) ?_
 refine E.To.code ?_
 refine E.C.seq ?_
 refine E.C.condT (by kernel_rfl) (by kernel_rfl) ?_
 refine E.C.skip (E.To.code ?_)
 refine E.C.seq ?_
 refine E.C.block ?_
 refine E.sr ?_
 refine E.op (.pointer (some ⟨go, 0, none⟩)) ?_
 refine E.li (.int .i64 ((o0 : Nat) : Int)) 2 rfl rfl ?_
 refine E.op (.int .i64 ((o0 : Nat) : Int)) ?_
 refine E.ur ?_
 refine E.op (.int .i64 ((o0 : Nat) : Int)) ?_
 refine E.li (.agg #[.bool true, .bool s.d, .bool s.a, .bool s.b, .int .i64 s.kind, .int .i64 ((s.bits : Nat) : Int), .int .u32 s.most]) 0 rfl rfl ?_
 refine E.vl (.pointer (some ⟨gt, 0 + (((o0 : Nat) : Int)).toNat * 7, none⟩)) (fun w h => E.idxA (e := 142) gt 0 64 7 .i64 (((o0 : Nat) : Int)) (by kernel_rfl) (by kernel_rfl) (by kernel_rfl) (by kernel_rfl) (by omega) (by omega) w) ?_
 refine E.G.store 1 (Q.tab (Q.upt f o0 (⟨true, s.d, s.a, s.b, s.kind, s.bits, s.most⟩))) rfl rfl (Q.sto_tab (k := o0) (s := ⟨true, s.d, s.a, s.b, s.kind, s.bits, s.most⟩) (by kernel_rfl) (by omega)) (by kernel_rfl) ?_
 refine E.P.nb (E.To.code ?_)
 refine E.C.region ?_
 refine E.op (.int .i64 1) ?_
 refine E.op (.int .i64 1) ?_
 refine E.To.rounds 0 ?_
 refine E.wk [(2, .pointer (some ⟨gt, 0, none⟩)), (3, .pointer (some ⟨g1, 0, none⟩)), (6, .int .i64 ((o0 : Nat) : Int)), (8, .slice (some ⟨go, 0, none⟩) 1 1), (9, .int .i64 1), (10, .int .i64 1), (11, .bool true), (12, .pointer (some ⟨go, 0, none⟩)), (13, .int .i64 ((o0 : Nat) : Int)), (14, .int .i64 ((o0 : Nat) : Int)), (15, .agg #[.bool true, .bool s.d, .bool s.a, .bool s.b, .int .i64 s.kind, .int .i64 ((s.bits : Nat) : Int), .int .u32 s.most]), (16, .pointer (some ⟨gt, 0 + (((o0 : Nat) : Int)).toNat * 7, none⟩)), (17, .int .i64 1)] [(g1, [.bool true, .bool s.d, .bool s.a, .bool s.b, .int .i64 s.kind, .int .i64 ((s.bits : Nat) : Int), .int .u32 s.most]), (gt, (Q.tab (Q.upt f o0 (⟨true, s.d, s.a, s.b, s.kind, s.bits, s.most⟩)))), (go, [.int .i64 ((o0 : Nat) : Int)])] (List.Sublist.refl _) ?_
 refine E.sr ?_
 refine E.op (.bool false) ?_
 refine E.To.code ?_
 refine E.C.seq ?_
 refine E.C.condF (by kernel_rfl) (by kernel_rfl) ?_
 refine E.C.exit (E.P.et (E.P.et (E.P.eh (E.To.bodyN (fn := Try.f95) [] ?_ ?_))))
 · exact trivial
 intro w h
 exact ⟨(), trivial, rfl, A.done (q := [A.blk gt (Q.tab (Q.upt f o0 (⟨true, s.d, s.a, s.b, s.kind, s.bits, s.most⟩))), A.blk go ([.int .i64 ((o0 : Nat) : Int)])]) (r := [A.blk g1 ([.bool true, .bool s.d, .bool s.a, .bool s.b, .int .i64 s.kind, .int .i64 ((s.bits : Nat) : Int), .int .u32 s.most])]) h (by kernel_rfl) (A.pn [1, 2, 0])⟩
theorem Set3 {gt go : Nat} {f : Nat → Q.Sh} (s : Q.Sh) (o0 o1 o2 : Nat) (ho0 : o0 < 64) (ho1 : o1 < 64) (ho2 : o2 < 64) : A.Tr Try.prog 95 #[.agg #[.bool s.kn, .bool s.d, .bool s.a, .bool s.b, .int .i64 s.kind, .int .i64 ((s.bits : Nat) : Int), .int .u32 s.most], .slice (some ⟨go, 0, none⟩) 3 3, .pointer (some ⟨gt, 0, none⟩)] [A.blk gt (Q.tab f), A.blk go [.int .i64 ((o0 : Nat) : Int), .int .i64 ((o1 : Nat) : Int), .int .i64 ((o2 : Nat) : Int)]] (I := Unit) (fun _ => True) (fun _ => .tuple #[]) (fun _ => [A.blk gt (Q.tab (Q.upt (Q.upt (Q.upt f o0 (⟨true, s.d, s.a, s.b, s.kind, s.bits, s.most⟩)) o1 (⟨true, s.d, s.a, s.b, s.kind, s.bits, s.most⟩)) o2 (⟨true, s.d, s.a, s.b, s.kind, s.bits, s.most⟩))), A.blk go [.int .i64 ((o0 : Nat) : Int), .int .i64 ((o1 : Nat) : Int), .int .i64 ((o2 : Nat) : Int)]]) := by
 intro w oo aa hh
 refine E.enter (n := 18) (S := oo) Try.func95 rfl rfl (by kernel_rfl) (A.start (L := [(gt, (Q.tab f)), (go, [.int .i64 ((o0 : Nat) : Int), .int .i64 ((o1 : Nat) : Int), .int .i64 ((o2 : Nat) : Int)])]) hh) ?_
 refine E.sr ?_
 refine E.G.new (fun g => .pointer (some ⟨g, 0, none⟩)) [.bool s.kn, .bool s.d, .bool s.a, .bool s.b, .int .i64 s.kind, .int .i64 ((s.bits : Nat) : Int), .int .u32 s.most] 142 (fun w => by kernel_rfl) (by kernel_rfl) (fun g1 => ?_)
 refine E.tr ?_
 refine E.op (.pointer (some ⟨g1, 0, none⟩)) ?_
 refine E.st 0 [.bool true, .bool s.d, .bool s.a, .bool s.b, .int .i64 s.kind, .int .i64 ((s.bits : Nat) : Int), .int .u32 s.most] rfl rfl ?_
 refine E.tr ?_
 refine E.op (.slice (some ⟨go, 0, none⟩) 3 3) ?_
 refine E.op (.int .i64 3) ?_
 refine E.op (.int .i64 0) ?_
 refine E.To.code ?_
 refine E.C.block ?_
 refine E.C.rounds 3 ?_
 refine E.sr ?_
 refine E.op (.bool true) ?_
 refine E.To.code ?_
 refine E.C.seq ?_
 refine E.C.condT (by kernel_rfl) (by kernel_rfl) ?_
 refine E.C.skip (E.To.code ?_)
 refine E.C.seq ?_
 refine E.C.block ?_
 refine E.sr ?_
 refine E.op (.pointer (some ⟨go, 0, none⟩)) ?_
 refine E.li (.int .i64 ((o0 : Nat) : Int)) 2 rfl rfl ?_
 refine E.op (.int .i64 ((o0 : Nat) : Int)) ?_
 refine E.ur ?_
 refine E.op (.int .i64 ((o0 : Nat) : Int)) ?_
 refine E.li (.agg #[.bool true, .bool s.d, .bool s.a, .bool s.b, .int .i64 s.kind, .int .i64 ((s.bits : Nat) : Int), .int .u32 s.most]) 0 rfl rfl ?_
 refine E.vl (.pointer (some ⟨gt, 0 + (((o0 : Nat) : Int)).toNat * 7, none⟩)) (fun w h => E.idxA (e := 142) gt 0 64 7 .i64 (((o0 : Nat) : Int)) (by kernel_rfl) (by kernel_rfl) (by kernel_rfl) (by kernel_rfl) (by omega) (by omega) w) ?_
 refine E.G.store 1 (Q.tab (Q.upt f o0 (⟨true, s.d, s.a, s.b, s.kind, s.bits, s.most⟩))) rfl rfl (Q.sto_tab (k := o0) (s := ⟨true, s.d, s.a, s.b, s.kind, s.bits, s.most⟩) (by kernel_rfl) (by omega)) (by kernel_rfl) ?_
 refine E.P.nb (E.To.code ?_)
 refine E.C.region ?_
 refine E.op (.int .i64 1) ?_
 refine E.op (.int .i64 1) ?_
 refine E.To.rounds 2 ?_
 refine E.wk [(2, .pointer (some ⟨gt, 0, none⟩)), (3, .pointer (some ⟨g1, 0, none⟩)), (6, .int .i64 ((o0 : Nat) : Int)), (8, .slice (some ⟨go, 0, none⟩) 3 3), (9, .int .i64 3), (10, .int .i64 1), (11, .bool true), (12, .pointer (some ⟨go, 0, none⟩)), (13, .int .i64 ((o0 : Nat) : Int)), (14, .int .i64 ((o0 : Nat) : Int)), (15, .agg #[.bool true, .bool s.d, .bool s.a, .bool s.b, .int .i64 s.kind, .int .i64 ((s.bits : Nat) : Int), .int .u32 s.most]), (16, .pointer (some ⟨gt, 0 + (((o0 : Nat) : Int)).toNat * 7, none⟩)), (17, .int .i64 1)] [(g1, [.bool true, .bool s.d, .bool s.a, .bool s.b, .int .i64 s.kind, .int .i64 ((s.bits : Nat) : Int), .int .u32 s.most]), (gt, (Q.tab (Q.upt f o0 (⟨true, s.d, s.a, s.b, s.kind, s.bits, s.most⟩)))), (go, [.int .i64 ((o0 : Nat) : Int), .int .i64 ((o1 : Nat) : Int), .int .i64 ((o2 : Nat) : Int)])] (List.Sublist.refl _) ?_
 refine E.sr ?_
 refine E.op (.bool true) ?_
 refine E.To.code ?_
 refine E.C.seq ?_
 refine E.C.condT (by kernel_rfl) (by kernel_rfl) ?_
 refine E.C.skip (E.To.code ?_)
 refine E.C.seq ?_
 refine E.C.block ?_
 refine E.sr ?_
 refine E.op (.pointer (some ⟨go, 1, none⟩)) ?_
 refine E.li (.int .i64 ((o1 : Nat) : Int)) 2 rfl rfl ?_
 refine E.op (.int .i64 ((o1 : Nat) : Int)) ?_
 refine E.ur ?_
 refine E.op (.int .i64 ((o1 : Nat) : Int)) ?_
 refine E.li (.agg #[.bool true, .bool s.d, .bool s.a, .bool s.b, .int .i64 s.kind, .int .i64 ((s.bits : Nat) : Int), .int .u32 s.most]) 0 rfl rfl ?_
 refine E.vl (.pointer (some ⟨gt, 0 + (((o1 : Nat) : Int)).toNat * 7, none⟩)) (fun w h => E.idxA (e := 142) gt 0 64 7 .i64 (((o1 : Nat) : Int)) (by kernel_rfl) (by kernel_rfl) (by kernel_rfl) (by kernel_rfl) (by omega) (by omega) w) ?_
 refine E.G.store 1 (Q.tab (Q.upt (Q.upt f o0 (⟨true, s.d, s.a, s.b, s.kind, s.bits, s.most⟩)) o1 (⟨true, s.d, s.a, s.b, s.kind, s.bits, s.most⟩))) rfl rfl (Q.sto_tab (k := o1) (s := ⟨true, s.d, s.a, s.b, s.kind, s.bits, s.most⟩) (by kernel_rfl) (by omega)) (by kernel_rfl) ?_
 refine E.P.nb (E.To.code ?_)
 refine E.C.region ?_
 refine E.op (.int .i64 2) ?_
 refine E.op (.int .i64 2) ?_
 refine E.To.rounds 1 ?_
 refine E.wk [(2, .pointer (some ⟨gt, 0, none⟩)), (3, .pointer (some ⟨g1, 0, none⟩)), (6, .int .i64 ((o1 : Nat) : Int)), (8, .slice (some ⟨go, 0, none⟩) 3 3), (9, .int .i64 3), (10, .int .i64 2), (11, .bool true), (12, .pointer (some ⟨go, 1, none⟩)), (13, .int .i64 ((o1 : Nat) : Int)), (14, .int .i64 ((o1 : Nat) : Int)), (15, .agg #[.bool true, .bool s.d, .bool s.a, .bool s.b, .int .i64 s.kind, .int .i64 ((s.bits : Nat) : Int), .int .u32 s.most]), (16, .pointer (some ⟨gt, 0 + (((o1 : Nat) : Int)).toNat * 7, none⟩)), (17, .int .i64 2)] [(g1, [.bool true, .bool s.d, .bool s.a, .bool s.b, .int .i64 s.kind, .int .i64 ((s.bits : Nat) : Int), .int .u32 s.most]), (gt, (Q.tab (Q.upt (Q.upt f o0 (⟨true, s.d, s.a, s.b, s.kind, s.bits, s.most⟩)) o1 (⟨true, s.d, s.a, s.b, s.kind, s.bits, s.most⟩)))), (go, [.int .i64 ((o0 : Nat) : Int), .int .i64 ((o1 : Nat) : Int), .int .i64 ((o2 : Nat) : Int)])] (List.Sublist.refl _) ?_
 refine E.sr ?_
 refine E.op (.bool true) ?_
 refine E.To.code ?_
 refine E.C.seq ?_
 refine E.C.condT (by kernel_rfl) (by kernel_rfl) ?_
 refine E.C.skip (E.To.code ?_)
 refine E.C.seq ?_
 refine E.C.block ?_
 refine E.sr ?_
 refine E.op (.pointer (some ⟨go, 2, none⟩)) ?_
 refine E.li (.int .i64 ((o2 : Nat) : Int)) 2 rfl rfl ?_
 refine E.op (.int .i64 ((o2 : Nat) : Int)) ?_
 refine E.ur ?_
 refine E.op (.int .i64 ((o2 : Nat) : Int)) ?_
 refine E.li (.agg #[.bool true, .bool s.d, .bool s.a, .bool s.b, .int .i64 s.kind, .int .i64 ((s.bits : Nat) : Int), .int .u32 s.most]) 0 rfl rfl ?_
 refine E.vl (.pointer (some ⟨gt, 0 + (((o2 : Nat) : Int)).toNat * 7, none⟩)) (fun w h => E.idxA (e := 142) gt 0 64 7 .i64 (((o2 : Nat) : Int)) (by kernel_rfl) (by kernel_rfl) (by kernel_rfl) (by kernel_rfl) (by omega) (by omega) w) ?_
 refine E.G.store 1 (Q.tab (Q.upt (Q.upt (Q.upt f o0 (⟨true, s.d, s.a, s.b, s.kind, s.bits, s.most⟩)) o1 (⟨true, s.d, s.a, s.b, s.kind, s.bits, s.most⟩)) o2 (⟨true, s.d, s.a, s.b, s.kind, s.bits, s.most⟩))) rfl rfl (Q.sto_tab (k := o2) (s := ⟨true, s.d, s.a, s.b, s.kind, s.bits, s.most⟩) (by kernel_rfl) (by omega)) (by kernel_rfl) ?_
 refine E.P.nb (E.To.code ?_)
 refine E.C.region ?_
 refine E.op (.int .i64 3) ?_
 refine E.op (.int .i64 3) ?_
 refine E.To.rounds 0 ?_
 refine E.wk [(2, .pointer (some ⟨gt, 0, none⟩)), (3, .pointer (some ⟨g1, 0, none⟩)), (6, .int .i64 ((o2 : Nat) : Int)), (8, .slice (some ⟨go, 0, none⟩) 3 3), (9, .int .i64 3), (10, .int .i64 3), (11, .bool true), (12, .pointer (some ⟨go, 2, none⟩)), (13, .int .i64 ((o2 : Nat) : Int)), (14, .int .i64 ((o2 : Nat) : Int)), (15, .agg #[.bool true, .bool s.d, .bool s.a, .bool s.b, .int .i64 s.kind, .int .i64 ((s.bits : Nat) : Int), .int .u32 s.most]), (16, .pointer (some ⟨gt, 0 + (((o2 : Nat) : Int)).toNat * 7, none⟩)), (17, .int .i64 3)] [(g1, [.bool true, .bool s.d, .bool s.a, .bool s.b, .int .i64 s.kind, .int .i64 ((s.bits : Nat) : Int), .int .u32 s.most]), (gt, (Q.tab (Q.upt (Q.upt (Q.upt f o0 (⟨true, s.d, s.a, s.b, s.kind, s.bits, s.most⟩)) o1 (⟨true, s.d, s.a, s.b, s.kind, s.bits, s.most⟩)) o2 (⟨true, s.d, s.a, s.b, s.kind, s.bits, s.most⟩)))), (go, [.int .i64 ((o0 : Nat) : Int), .int .i64 ((o1 : Nat) : Int), .int .i64 ((o2 : Nat) : Int)])] (List.Sublist.refl _) ?_
 refine E.sr ?_
 refine E.op (.bool false) ?_
 refine E.To.code ?_
 refine E.C.seq ?_
 refine E.C.condF (by kernel_rfl) (by kernel_rfl) ?_
 refine E.C.exit (E.P.et (E.P.et (E.P.eh (E.To.bodyN (fn := Try.f95) [] ?_ ?_))))
 · exact trivial
 intro w h
 exact ⟨(), trivial, rfl, A.done (q := [A.blk gt (Q.tab (Q.upt (Q.upt (Q.upt f o0 (⟨true, s.d, s.a, s.b, s.kind, s.bits, s.most⟩)) o1 (⟨true, s.d, s.a, s.b, s.kind, s.bits, s.most⟩)) o2 (⟨true, s.d, s.a, s.b, s.kind, s.bits, s.most⟩))), A.blk go ([.int .i64 ((o0 : Nat) : Int), .int .i64 ((o1 : Nat) : Int), .int .i64 ((o2 : Nat) : Int)])]) (r := [A.blk g1 ([.bool true, .bool s.d, .bool s.a, .bool s.b, .int .i64 s.kind, .int .i64 ((s.bits : Nat) : Int), .int .u32 s.most])]) h (by kernel_rfl) (A.pn [1, 2, 0])⟩
theorem Set6 {gt go : Nat} {f : Nat → Q.Sh} (s : Q.Sh) (o0 o1 o2 o3 o4 o5 : Nat) (ho0 : o0 < 64) (ho1 : o1 < 64) (ho2 : o2 < 64) (ho3 : o3 < 64) (ho4 : o4 < 64) (ho5 : o5 < 64) : A.Tr Try.prog 95 #[.agg #[.bool s.kn, .bool s.d, .bool s.a, .bool s.b, .int .i64 s.kind, .int .i64 ((s.bits : Nat) : Int), .int .u32 s.most], .slice (some ⟨go, 0, none⟩) 6 6, .pointer (some ⟨gt, 0, none⟩)] [A.blk gt (Q.tab f), A.blk go [.int .i64 ((o0 : Nat) : Int), .int .i64 ((o1 : Nat) : Int), .int .i64 ((o2 : Nat) : Int), .int .i64 ((o3 : Nat) : Int), .int .i64 ((o4 : Nat) : Int), .int .i64 ((o5 : Nat) : Int)]] (I := Unit) (fun _ => True) (fun _ => .tuple #[]) (fun _ => [A.blk gt (Q.tab (Q.upt (Q.upt (Q.upt (Q.upt (Q.upt (Q.upt f o0 (⟨true, s.d, s.a, s.b, s.kind, s.bits, s.most⟩)) o1 (⟨true, s.d, s.a, s.b, s.kind, s.bits, s.most⟩)) o2 (⟨true, s.d, s.a, s.b, s.kind, s.bits, s.most⟩)) o3 (⟨true, s.d, s.a, s.b, s.kind, s.bits, s.most⟩)) o4 (⟨true, s.d, s.a, s.b, s.kind, s.bits, s.most⟩)) o5 (⟨true, s.d, s.a, s.b, s.kind, s.bits, s.most⟩))), A.blk go [.int .i64 ((o0 : Nat) : Int), .int .i64 ((o1 : Nat) : Int), .int .i64 ((o2 : Nat) : Int), .int .i64 ((o3 : Nat) : Int), .int .i64 ((o4 : Nat) : Int), .int .i64 ((o5 : Nat) : Int)]]) := by
 intro w oo aa hh
 refine E.enter (n := 18) (S := oo) Try.func95 rfl rfl (by kernel_rfl) (A.start (L := [(gt, (Q.tab f)), (go, [.int .i64 ((o0 : Nat) : Int), .int .i64 ((o1 : Nat) : Int), .int .i64 ((o2 : Nat) : Int), .int .i64 ((o3 : Nat) : Int), .int .i64 ((o4 : Nat) : Int), .int .i64 ((o5 : Nat) : Int)])]) hh) ?_
 refine E.sr ?_
 refine E.G.new (fun g => .pointer (some ⟨g, 0, none⟩)) [.bool s.kn, .bool s.d, .bool s.a, .bool s.b, .int .i64 s.kind, .int .i64 ((s.bits : Nat) : Int), .int .u32 s.most] 142 (fun w => by kernel_rfl) (by kernel_rfl) (fun g1 => ?_)
 refine E.tr ?_
 refine E.op (.pointer (some ⟨g1, 0, none⟩)) ?_
 refine E.st 0 [.bool true, .bool s.d, .bool s.a, .bool s.b, .int .i64 s.kind, .int .i64 ((s.bits : Nat) : Int), .int .u32 s.most] rfl rfl ?_
 refine E.tr ?_
 refine E.op (.slice (some ⟨go, 0, none⟩) 6 6) ?_
 refine E.op (.int .i64 6) ?_
 refine E.op (.int .i64 0) ?_
 refine E.To.code ?_
 refine E.C.block ?_
 refine E.C.rounds 6 ?_
 refine E.sr ?_
 refine E.op (.bool true) ?_
 refine E.To.code ?_
 refine E.C.seq ?_
 refine E.C.condT (by kernel_rfl) (by kernel_rfl) ?_
 refine E.C.skip (E.To.code ?_)
 refine E.C.seq ?_
 refine E.C.block ?_
 refine E.sr ?_
 refine E.op (.pointer (some ⟨go, 0, none⟩)) ?_
 refine E.li (.int .i64 ((o0 : Nat) : Int)) 2 rfl rfl ?_
 refine E.op (.int .i64 ((o0 : Nat) : Int)) ?_
 refine E.ur ?_
 refine E.op (.int .i64 ((o0 : Nat) : Int)) ?_
 refine E.li (.agg #[.bool true, .bool s.d, .bool s.a, .bool s.b, .int .i64 s.kind, .int .i64 ((s.bits : Nat) : Int), .int .u32 s.most]) 0 rfl rfl ?_
 refine E.vl (.pointer (some ⟨gt, 0 + (((o0 : Nat) : Int)).toNat * 7, none⟩)) (fun w h => E.idxA (e := 142) gt 0 64 7 .i64 (((o0 : Nat) : Int)) (by kernel_rfl) (by kernel_rfl) (by kernel_rfl) (by kernel_rfl) (by omega) (by omega) w) ?_
 refine E.G.store 1 (Q.tab (Q.upt f o0 (⟨true, s.d, s.a, s.b, s.kind, s.bits, s.most⟩))) rfl rfl (Q.sto_tab (k := o0) (s := ⟨true, s.d, s.a, s.b, s.kind, s.bits, s.most⟩) (by kernel_rfl) (by omega)) (by kernel_rfl) ?_
 refine E.P.nb (E.To.code ?_)
 refine E.C.region ?_
 refine E.op (.int .i64 1) ?_
 refine E.op (.int .i64 1) ?_
 refine E.To.rounds 5 ?_
 refine E.wk [(2, .pointer (some ⟨gt, 0, none⟩)), (3, .pointer (some ⟨g1, 0, none⟩)), (6, .int .i64 ((o0 : Nat) : Int)), (8, .slice (some ⟨go, 0, none⟩) 6 6), (9, .int .i64 6), (10, .int .i64 1), (11, .bool true), (12, .pointer (some ⟨go, 0, none⟩)), (13, .int .i64 ((o0 : Nat) : Int)), (14, .int .i64 ((o0 : Nat) : Int)), (15, .agg #[.bool true, .bool s.d, .bool s.a, .bool s.b, .int .i64 s.kind, .int .i64 ((s.bits : Nat) : Int), .int .u32 s.most]), (16, .pointer (some ⟨gt, 0 + (((o0 : Nat) : Int)).toNat * 7, none⟩)), (17, .int .i64 1)] [(g1, [.bool true, .bool s.d, .bool s.a, .bool s.b, .int .i64 s.kind, .int .i64 ((s.bits : Nat) : Int), .int .u32 s.most]), (gt, (Q.tab (Q.upt f o0 (⟨true, s.d, s.a, s.b, s.kind, s.bits, s.most⟩)))), (go, [.int .i64 ((o0 : Nat) : Int), .int .i64 ((o1 : Nat) : Int), .int .i64 ((o2 : Nat) : Int), .int .i64 ((o3 : Nat) : Int), .int .i64 ((o4 : Nat) : Int), .int .i64 ((o5 : Nat) : Int)])] (List.Sublist.refl _) ?_
 refine E.sr ?_
 refine E.op (.bool true) ?_
 refine E.To.code ?_
 refine E.C.seq ?_
 refine E.C.condT (by kernel_rfl) (by kernel_rfl) ?_
 refine E.C.skip (E.To.code ?_)
 refine E.C.seq ?_
 refine E.C.block ?_
 refine E.sr ?_
 refine E.op (.pointer (some ⟨go, 1, none⟩)) ?_
 refine E.li (.int .i64 ((o1 : Nat) : Int)) 2 rfl rfl ?_
 refine E.op (.int .i64 ((o1 : Nat) : Int)) ?_
 refine E.ur ?_
 refine E.op (.int .i64 ((o1 : Nat) : Int)) ?_
 refine E.li (.agg #[.bool true, .bool s.d, .bool s.a, .bool s.b, .int .i64 s.kind, .int .i64 ((s.bits : Nat) : Int), .int .u32 s.most]) 0 rfl rfl ?_
 refine E.vl (.pointer (some ⟨gt, 0 + (((o1 : Nat) : Int)).toNat * 7, none⟩)) (fun w h => E.idxA (e := 142) gt 0 64 7 .i64 (((o1 : Nat) : Int)) (by kernel_rfl) (by kernel_rfl) (by kernel_rfl) (by kernel_rfl) (by omega) (by omega) w) ?_
 refine E.G.store 1 (Q.tab (Q.upt (Q.upt f o0 (⟨true, s.d, s.a, s.b, s.kind, s.bits, s.most⟩)) o1 (⟨true, s.d, s.a, s.b, s.kind, s.bits, s.most⟩))) rfl rfl (Q.sto_tab (k := o1) (s := ⟨true, s.d, s.a, s.b, s.kind, s.bits, s.most⟩) (by kernel_rfl) (by omega)) (by kernel_rfl) ?_
 refine E.P.nb (E.To.code ?_)
 refine E.C.region ?_
 refine E.op (.int .i64 2) ?_
 refine E.op (.int .i64 2) ?_
 refine E.To.rounds 4 ?_
 refine E.wk [(2, .pointer (some ⟨gt, 0, none⟩)), (3, .pointer (some ⟨g1, 0, none⟩)), (6, .int .i64 ((o1 : Nat) : Int)), (8, .slice (some ⟨go, 0, none⟩) 6 6), (9, .int .i64 6), (10, .int .i64 2), (11, .bool true), (12, .pointer (some ⟨go, 1, none⟩)), (13, .int .i64 ((o1 : Nat) : Int)), (14, .int .i64 ((o1 : Nat) : Int)), (15, .agg #[.bool true, .bool s.d, .bool s.a, .bool s.b, .int .i64 s.kind, .int .i64 ((s.bits : Nat) : Int), .int .u32 s.most]), (16, .pointer (some ⟨gt, 0 + (((o1 : Nat) : Int)).toNat * 7, none⟩)), (17, .int .i64 2)] [(g1, [.bool true, .bool s.d, .bool s.a, .bool s.b, .int .i64 s.kind, .int .i64 ((s.bits : Nat) : Int), .int .u32 s.most]), (gt, (Q.tab (Q.upt (Q.upt f o0 (⟨true, s.d, s.a, s.b, s.kind, s.bits, s.most⟩)) o1 (⟨true, s.d, s.a, s.b, s.kind, s.bits, s.most⟩)))), (go, [.int .i64 ((o0 : Nat) : Int), .int .i64 ((o1 : Nat) : Int), .int .i64 ((o2 : Nat) : Int), .int .i64 ((o3 : Nat) : Int), .int .i64 ((o4 : Nat) : Int), .int .i64 ((o5 : Nat) : Int)])] (List.Sublist.refl _) ?_
 refine E.sr ?_
 refine E.op (.bool true) ?_
 refine E.To.code ?_
 refine E.C.seq ?_
 refine E.C.condT (by kernel_rfl) (by kernel_rfl) ?_
 refine E.C.skip (E.To.code ?_)
 refine E.C.seq ?_
 refine E.C.block ?_
 refine E.sr ?_
 refine E.op (.pointer (some ⟨go, 2, none⟩)) ?_
 refine E.li (.int .i64 ((o2 : Nat) : Int)) 2 rfl rfl ?_
 refine E.op (.int .i64 ((o2 : Nat) : Int)) ?_
 refine E.ur ?_
 refine E.op (.int .i64 ((o2 : Nat) : Int)) ?_
 refine E.li (.agg #[.bool true, .bool s.d, .bool s.a, .bool s.b, .int .i64 s.kind, .int .i64 ((s.bits : Nat) : Int), .int .u32 s.most]) 0 rfl rfl ?_
 refine E.vl (.pointer (some ⟨gt, 0 + (((o2 : Nat) : Int)).toNat * 7, none⟩)) (fun w h => E.idxA (e := 142) gt 0 64 7 .i64 (((o2 : Nat) : Int)) (by kernel_rfl) (by kernel_rfl) (by kernel_rfl) (by kernel_rfl) (by omega) (by omega) w) ?_
 refine E.G.store 1 (Q.tab (Q.upt (Q.upt (Q.upt f o0 (⟨true, s.d, s.a, s.b, s.kind, s.bits, s.most⟩)) o1 (⟨true, s.d, s.a, s.b, s.kind, s.bits, s.most⟩)) o2 (⟨true, s.d, s.a, s.b, s.kind, s.bits, s.most⟩))) rfl rfl (Q.sto_tab (k := o2) (s := ⟨true, s.d, s.a, s.b, s.kind, s.bits, s.most⟩) (by kernel_rfl) (by omega)) (by kernel_rfl) ?_
 refine E.P.nb (E.To.code ?_)
 refine E.C.region ?_
 refine E.op (.int .i64 3) ?_
 refine E.op (.int .i64 3) ?_
 refine E.To.rounds 3 ?_
 refine E.wk [(2, .pointer (some ⟨gt, 0, none⟩)), (3, .pointer (some ⟨g1, 0, none⟩)), (6, .int .i64 ((o2 : Nat) : Int)), (8, .slice (some ⟨go, 0, none⟩) 6 6), (9, .int .i64 6), (10, .int .i64 3), (11, .bool true), (12, .pointer (some ⟨go, 2, none⟩)), (13, .int .i64 ((o2 : Nat) : Int)), (14, .int .i64 ((o2 : Nat) : Int)), (15, .agg #[.bool true, .bool s.d, .bool s.a, .bool s.b, .int .i64 s.kind, .int .i64 ((s.bits : Nat) : Int), .int .u32 s.most]), (16, .pointer (some ⟨gt, 0 + (((o2 : Nat) : Int)).toNat * 7, none⟩)), (17, .int .i64 3)] [(g1, [.bool true, .bool s.d, .bool s.a, .bool s.b, .int .i64 s.kind, .int .i64 ((s.bits : Nat) : Int), .int .u32 s.most]), (gt, (Q.tab (Q.upt (Q.upt (Q.upt f o0 (⟨true, s.d, s.a, s.b, s.kind, s.bits, s.most⟩)) o1 (⟨true, s.d, s.a, s.b, s.kind, s.bits, s.most⟩)) o2 (⟨true, s.d, s.a, s.b, s.kind, s.bits, s.most⟩)))), (go, [.int .i64 ((o0 : Nat) : Int), .int .i64 ((o1 : Nat) : Int), .int .i64 ((o2 : Nat) : Int), .int .i64 ((o3 : Nat) : Int), .int .i64 ((o4 : Nat) : Int), .int .i64 ((o5 : Nat) : Int)])] (List.Sublist.refl _) ?_
 refine E.sr ?_
 refine E.op (.bool true) ?_
 refine E.To.code ?_
 refine E.C.seq ?_
 refine E.C.condT (by kernel_rfl) (by kernel_rfl) ?_
 refine E.C.skip (E.To.code ?_)
 refine E.C.seq ?_
 refine E.C.block ?_
 refine E.sr ?_
 refine E.op (.pointer (some ⟨go, 3, none⟩)) ?_
 refine E.li (.int .i64 ((o3 : Nat) : Int)) 2 rfl rfl ?_
 refine E.op (.int .i64 ((o3 : Nat) : Int)) ?_
 refine E.ur ?_
 refine E.op (.int .i64 ((o3 : Nat) : Int)) ?_
 refine E.li (.agg #[.bool true, .bool s.d, .bool s.a, .bool s.b, .int .i64 s.kind, .int .i64 ((s.bits : Nat) : Int), .int .u32 s.most]) 0 rfl rfl ?_
 refine E.vl (.pointer (some ⟨gt, 0 + (((o3 : Nat) : Int)).toNat * 7, none⟩)) (fun w h => E.idxA (e := 142) gt 0 64 7 .i64 (((o3 : Nat) : Int)) (by kernel_rfl) (by kernel_rfl) (by kernel_rfl) (by kernel_rfl) (by omega) (by omega) w) ?_
 refine E.G.store 1 (Q.tab (Q.upt (Q.upt (Q.upt (Q.upt f o0 (⟨true, s.d, s.a, s.b, s.kind, s.bits, s.most⟩)) o1 (⟨true, s.d, s.a, s.b, s.kind, s.bits, s.most⟩)) o2 (⟨true, s.d, s.a, s.b, s.kind, s.bits, s.most⟩)) o3 (⟨true, s.d, s.a, s.b, s.kind, s.bits, s.most⟩))) rfl rfl (Q.sto_tab (k := o3) (s := ⟨true, s.d, s.a, s.b, s.kind, s.bits, s.most⟩) (by kernel_rfl) (by omega)) (by kernel_rfl) ?_
 refine E.P.nb (E.To.code ?_)
 refine E.C.region ?_
 refine E.op (.int .i64 4) ?_
 refine E.op (.int .i64 4) ?_
 refine E.To.rounds 2 ?_
 refine E.wk [(2, .pointer (some ⟨gt, 0, none⟩)), (3, .pointer (some ⟨g1, 0, none⟩)), (6, .int .i64 ((o3 : Nat) : Int)), (8, .slice (some ⟨go, 0, none⟩) 6 6), (9, .int .i64 6), (10, .int .i64 4), (11, .bool true), (12, .pointer (some ⟨go, 3, none⟩)), (13, .int .i64 ((o3 : Nat) : Int)), (14, .int .i64 ((o3 : Nat) : Int)), (15, .agg #[.bool true, .bool s.d, .bool s.a, .bool s.b, .int .i64 s.kind, .int .i64 ((s.bits : Nat) : Int), .int .u32 s.most]), (16, .pointer (some ⟨gt, 0 + (((o3 : Nat) : Int)).toNat * 7, none⟩)), (17, .int .i64 4)] [(g1, [.bool true, .bool s.d, .bool s.a, .bool s.b, .int .i64 s.kind, .int .i64 ((s.bits : Nat) : Int), .int .u32 s.most]), (gt, (Q.tab (Q.upt (Q.upt (Q.upt (Q.upt f o0 (⟨true, s.d, s.a, s.b, s.kind, s.bits, s.most⟩)) o1 (⟨true, s.d, s.a, s.b, s.kind, s.bits, s.most⟩)) o2 (⟨true, s.d, s.a, s.b, s.kind, s.bits, s.most⟩)) o3 (⟨true, s.d, s.a, s.b, s.kind, s.bits, s.most⟩)))), (go, [.int .i64 ((o0 : Nat) : Int), .int .i64 ((o1 : Nat) : Int), .int .i64 ((o2 : Nat) : Int), .int .i64 ((o3 : Nat) : Int), .int .i64 ((o4 : Nat) : Int), .int .i64 ((o5 : Nat) : Int)])] (List.Sublist.refl _) ?_
 refine E.sr ?_
 refine E.op (.bool true) ?_
 refine E.To.code ?_
 refine E.C.seq ?_
 refine E.C.condT (by kernel_rfl) (by kernel_rfl) ?_
 refine E.C.skip (E.To.code ?_)
 refine E.C.seq ?_
 refine E.C.block ?_
 refine E.sr ?_
 refine E.op (.pointer (some ⟨go, 4, none⟩)) ?_
 refine E.li (.int .i64 ((o4 : Nat) : Int)) 2 rfl rfl ?_
 refine E.op (.int .i64 ((o4 : Nat) : Int)) ?_
 refine E.ur ?_
 refine E.op (.int .i64 ((o4 : Nat) : Int)) ?_
 refine E.li (.agg #[.bool true, .bool s.d, .bool s.a, .bool s.b, .int .i64 s.kind, .int .i64 ((s.bits : Nat) : Int), .int .u32 s.most]) 0 rfl rfl ?_
 refine E.vl (.pointer (some ⟨gt, 0 + (((o4 : Nat) : Int)).toNat * 7, none⟩)) (fun w h => E.idxA (e := 142) gt 0 64 7 .i64 (((o4 : Nat) : Int)) (by kernel_rfl) (by kernel_rfl) (by kernel_rfl) (by kernel_rfl) (by omega) (by omega) w) ?_
 refine E.G.store 1 (Q.tab (Q.upt (Q.upt (Q.upt (Q.upt (Q.upt f o0 (⟨true, s.d, s.a, s.b, s.kind, s.bits, s.most⟩)) o1 (⟨true, s.d, s.a, s.b, s.kind, s.bits, s.most⟩)) o2 (⟨true, s.d, s.a, s.b, s.kind, s.bits, s.most⟩)) o3 (⟨true, s.d, s.a, s.b, s.kind, s.bits, s.most⟩)) o4 (⟨true, s.d, s.a, s.b, s.kind, s.bits, s.most⟩))) rfl rfl (Q.sto_tab (k := o4) (s := ⟨true, s.d, s.a, s.b, s.kind, s.bits, s.most⟩) (by kernel_rfl) (by omega)) (by kernel_rfl) ?_
 refine E.P.nb (E.To.code ?_)
 refine E.C.region ?_
 refine E.op (.int .i64 5) ?_
 refine E.op (.int .i64 5) ?_
 refine E.To.rounds 1 ?_
 refine E.wk [(2, .pointer (some ⟨gt, 0, none⟩)), (3, .pointer (some ⟨g1, 0, none⟩)), (6, .int .i64 ((o4 : Nat) : Int)), (8, .slice (some ⟨go, 0, none⟩) 6 6), (9, .int .i64 6), (10, .int .i64 5), (11, .bool true), (12, .pointer (some ⟨go, 4, none⟩)), (13, .int .i64 ((o4 : Nat) : Int)), (14, .int .i64 ((o4 : Nat) : Int)), (15, .agg #[.bool true, .bool s.d, .bool s.a, .bool s.b, .int .i64 s.kind, .int .i64 ((s.bits : Nat) : Int), .int .u32 s.most]), (16, .pointer (some ⟨gt, 0 + (((o4 : Nat) : Int)).toNat * 7, none⟩)), (17, .int .i64 5)] [(g1, [.bool true, .bool s.d, .bool s.a, .bool s.b, .int .i64 s.kind, .int .i64 ((s.bits : Nat) : Int), .int .u32 s.most]), (gt, (Q.tab (Q.upt (Q.upt (Q.upt (Q.upt (Q.upt f o0 (⟨true, s.d, s.a, s.b, s.kind, s.bits, s.most⟩)) o1 (⟨true, s.d, s.a, s.b, s.kind, s.bits, s.most⟩)) o2 (⟨true, s.d, s.a, s.b, s.kind, s.bits, s.most⟩)) o3 (⟨true, s.d, s.a, s.b, s.kind, s.bits, s.most⟩)) o4 (⟨true, s.d, s.a, s.b, s.kind, s.bits, s.most⟩)))), (go, [.int .i64 ((o0 : Nat) : Int), .int .i64 ((o1 : Nat) : Int), .int .i64 ((o2 : Nat) : Int), .int .i64 ((o3 : Nat) : Int), .int .i64 ((o4 : Nat) : Int), .int .i64 ((o5 : Nat) : Int)])] (List.Sublist.refl _) ?_
 refine E.sr ?_
 refine E.op (.bool true) ?_
 refine E.To.code ?_
 refine E.C.seq ?_
 refine E.C.condT (by kernel_rfl) (by kernel_rfl) ?_
 refine E.C.skip (E.To.code ?_)
 refine E.C.seq ?_
 refine E.C.block ?_
 refine E.sr ?_
 refine E.op (.pointer (some ⟨go, 5, none⟩)) ?_
 refine E.li (.int .i64 ((o5 : Nat) : Int)) 2 rfl rfl ?_
 refine E.op (.int .i64 ((o5 : Nat) : Int)) ?_
 refine E.ur ?_
 refine E.op (.int .i64 ((o5 : Nat) : Int)) ?_
 refine E.li (.agg #[.bool true, .bool s.d, .bool s.a, .bool s.b, .int .i64 s.kind, .int .i64 ((s.bits : Nat) : Int), .int .u32 s.most]) 0 rfl rfl ?_
 refine E.vl (.pointer (some ⟨gt, 0 + (((o5 : Nat) : Int)).toNat * 7, none⟩)) (fun w h => E.idxA (e := 142) gt 0 64 7 .i64 (((o5 : Nat) : Int)) (by kernel_rfl) (by kernel_rfl) (by kernel_rfl) (by kernel_rfl) (by omega) (by omega) w) ?_
 refine E.G.store 1 (Q.tab (Q.upt (Q.upt (Q.upt (Q.upt (Q.upt (Q.upt f o0 (⟨true, s.d, s.a, s.b, s.kind, s.bits, s.most⟩)) o1 (⟨true, s.d, s.a, s.b, s.kind, s.bits, s.most⟩)) o2 (⟨true, s.d, s.a, s.b, s.kind, s.bits, s.most⟩)) o3 (⟨true, s.d, s.a, s.b, s.kind, s.bits, s.most⟩)) o4 (⟨true, s.d, s.a, s.b, s.kind, s.bits, s.most⟩)) o5 (⟨true, s.d, s.a, s.b, s.kind, s.bits, s.most⟩))) rfl rfl (Q.sto_tab (k := o5) (s := ⟨true, s.d, s.a, s.b, s.kind, s.bits, s.most⟩) (by kernel_rfl) (by omega)) (by kernel_rfl) ?_
 refine E.P.nb (E.To.code ?_)
 refine E.C.region ?_
 refine E.op (.int .i64 6) ?_
 refine E.op (.int .i64 6) ?_
 refine E.To.rounds 0 ?_
 refine E.wk [(2, .pointer (some ⟨gt, 0, none⟩)), (3, .pointer (some ⟨g1, 0, none⟩)), (6, .int .i64 ((o5 : Nat) : Int)), (8, .slice (some ⟨go, 0, none⟩) 6 6), (9, .int .i64 6), (10, .int .i64 6), (11, .bool true), (12, .pointer (some ⟨go, 5, none⟩)), (13, .int .i64 ((o5 : Nat) : Int)), (14, .int .i64 ((o5 : Nat) : Int)), (15, .agg #[.bool true, .bool s.d, .bool s.a, .bool s.b, .int .i64 s.kind, .int .i64 ((s.bits : Nat) : Int), .int .u32 s.most]), (16, .pointer (some ⟨gt, 0 + (((o5 : Nat) : Int)).toNat * 7, none⟩)), (17, .int .i64 6)] [(g1, [.bool true, .bool s.d, .bool s.a, .bool s.b, .int .i64 s.kind, .int .i64 ((s.bits : Nat) : Int), .int .u32 s.most]), (gt, (Q.tab (Q.upt (Q.upt (Q.upt (Q.upt (Q.upt (Q.upt f o0 (⟨true, s.d, s.a, s.b, s.kind, s.bits, s.most⟩)) o1 (⟨true, s.d, s.a, s.b, s.kind, s.bits, s.most⟩)) o2 (⟨true, s.d, s.a, s.b, s.kind, s.bits, s.most⟩)) o3 (⟨true, s.d, s.a, s.b, s.kind, s.bits, s.most⟩)) o4 (⟨true, s.d, s.a, s.b, s.kind, s.bits, s.most⟩)) o5 (⟨true, s.d, s.a, s.b, s.kind, s.bits, s.most⟩)))), (go, [.int .i64 ((o0 : Nat) : Int), .int .i64 ((o1 : Nat) : Int), .int .i64 ((o2 : Nat) : Int), .int .i64 ((o3 : Nat) : Int), .int .i64 ((o4 : Nat) : Int), .int .i64 ((o5 : Nat) : Int)])] (List.Sublist.refl _) ?_
 refine E.sr ?_
 refine E.op (.bool false) ?_
 refine E.To.code ?_
 refine E.C.seq ?_
 refine E.C.condF (by kernel_rfl) (by kernel_rfl) ?_
 refine E.C.exit (E.P.et (E.P.et (E.P.eh (E.To.bodyN (fn := Try.f95) [] ?_ ?_))))
 · exact trivial
 intro w h
 exact ⟨(), trivial, rfl, A.done (q := [A.blk gt (Q.tab (Q.upt (Q.upt (Q.upt (Q.upt (Q.upt (Q.upt f o0 (⟨true, s.d, s.a, s.b, s.kind, s.bits, s.most⟩)) o1 (⟨true, s.d, s.a, s.b, s.kind, s.bits, s.most⟩)) o2 (⟨true, s.d, s.a, s.b, s.kind, s.bits, s.most⟩)) o3 (⟨true, s.d, s.a, s.b, s.kind, s.bits, s.most⟩)) o4 (⟨true, s.d, s.a, s.b, s.kind, s.bits, s.most⟩)) o5 (⟨true, s.d, s.a, s.b, s.kind, s.bits, s.most⟩))), A.blk go ([.int .i64 ((o0 : Nat) : Int), .int .i64 ((o1 : Nat) : Int), .int .i64 ((o2 : Nat) : Int), .int .i64 ((o3 : Nat) : Int), .int .i64 ((o4 : Nat) : Int), .int .i64 ((o5 : Nat) : Int)])]) (r := [A.blk g1 ([.bool true, .bool s.d, .bool s.a, .bool s.b, .int .i64 s.kind, .int .i64 ((s.bits : Nat) : Int), .int .u32 s.most])]) h (by kernel_rfl) (A.pn [1, 2, 0])⟩
def Q.t0 : Nat → Q.Sh := (Q.upt (fun _ => Q.sh0) 1 ⟨true, true, true, true, 0, 0, 0⟩)
def Q.t1 : Nat → Q.Sh := (Q.upt Q.t0 2 ⟨true, true, true, true, 0, 0, 0⟩)
def Q.t2 : Nat → Q.Sh := (Q.upt Q.t1 3 ⟨true, true, true, true, 0, 0, 0⟩)
def Q.t3 : Nat → Q.Sh := (Q.upt Q.t2 4 ⟨true, true, true, true, 0, 0, 0⟩)
def Q.t4 : Nat → Q.Sh := (Q.upt Q.t3 5 ⟨true, true, true, true, 0, 0, 0⟩)
def Q.t5 : Nat → Q.Sh := (Q.upt Q.t4 6 ⟨true, true, true, true, 0, 0, 0⟩)
def Q.t6 : Nat → Q.Sh := (Q.upt Q.t5 7 ⟨true, true, true, true, 0, 0, 0⟩)
def Q.t7 : Nat → Q.Sh := (Q.upt Q.t6 8 ⟨true, true, true, true, 0, 0, 0⟩)
def Q.t8 : Nat → Q.Sh := (Q.upt Q.t7 9 ⟨true, true, true, true, 0, 0, 0⟩)
def Q.t9 : Nat → Q.Sh := (Q.upt Q.t8 10 ⟨true, true, true, true, 0, 0, 0⟩)
def Q.t10 : Nat → Q.Sh := (Q.upt Q.t9 11 ⟨true, true, true, true, 0, 0, 0⟩)
def Q.t11 : Nat → Q.Sh := (Q.upt Q.t10 12 ⟨true, true, true, true, 0, 0, 0⟩)
def Q.t12 : Nat → Q.Sh := (Q.upt Q.t11 16 ⟨true, true, true, false, 1, 18, 0⟩)
def Q.t13 : Nat → Q.Sh := (Q.upt Q.t12 17 ⟨true, true, true, false, 1, 18, 0⟩)
def Q.t14 : Nat → Q.Sh := (Q.upt Q.t13 18 ⟨true, true, true, false, 1, 18, 0⟩)
def Q.t15 : Nat → Q.Sh := (Q.upt Q.t14 19 ⟨true, true, true, false, 1, 18, 0⟩)
def Q.t16 : Nat → Q.Sh := (Q.upt Q.t15 20 ⟨true, true, true, false, 1, 18, 0⟩)
def Q.t17 : Nat → Q.Sh := (Q.upt Q.t16 21 ⟨true, true, true, false, 1, 18, 0⟩)
def Q.t18 : Nat → Q.Sh := (Q.upt Q.t17 22 ⟨true, true, true, false, 1, 18, 0⟩)
def Q.t19 : Nat → Q.Sh := (Q.upt Q.t18 23 ⟨true, true, true, false, 1, 18, 0⟩)
def Q.t20 : Nat → Q.Sh := (Q.upt Q.t19 24 ⟨true, true, true, false, 1, 18, 0⟩)
def Q.t21 : Nat → Q.Sh := (Q.upt Q.t20 25 ⟨true, true, true, false, 1, 18, 0⟩)
def Q.t22 : Nat → Q.Sh := (Q.upt Q.t21 26 ⟨true, true, true, false, 1, 18, 0⟩)
def Q.t23 : Nat → Q.Sh := (Q.upt Q.t22 27 ⟨true, true, true, false, 1, 18, 0⟩)
def Q.t24 : Nat → Q.Sh := (Q.upt (Q.upt (Q.upt Q.t23 17 ⟨true, true, true, false, 2, 18, 0⟩) 18 ⟨true, true, true, false, 2, 18, 0⟩) 19 ⟨true, true, true, false, 2, 18, 0⟩)
def Q.t25 : Nat → Q.Sh := (Q.upt (Q.upt (Q.upt (Q.upt (Q.upt (Q.upt Q.t24 32 ⟨true, true, true, false, 1, 18, 0⟩) 33 ⟨true, true, true, false, 1, 18, 0⟩) 34 ⟨true, true, true, false, 1, 18, 0⟩) 35 ⟨true, true, true, false, 1, 18, 0⟩) 36 ⟨true, true, true, false, 1, 18, 0⟩) 37 ⟨true, true, true, false, 1, 18, 0⟩)
def Q.t26 : Nat → Q.Sh := (Q.upt Q.t25 40 ⟨true, true, false, false, 1, 22, 0⟩)
def Q.t27 : Nat → Q.Sh := (Q.upt Q.t26 41 ⟨true, true, false, false, 2, 22, 0⟩)
def Q.t28 : Nat → Q.Sh := (Q.upt Q.t27 48 ⟨true, false, false, false, 2, 18, 0⟩)
def Q.t29 : Nat → Q.Sh := (Q.upt (Q.upt (Q.upt Q.t28 49 ⟨true, false, false, false, 0, 0, 0⟩) 50 ⟨true, false, false, false, 0, 0, 0⟩) 51 ⟨true, false, false, false, 0, 0, 0⟩)
def Q.t30 : Nat → Q.Sh := (Q.upt Q.t29 52 ⟨true, false, true, false, 0, 0, 0⟩)
def Q.t31 : Nat → Q.Sh := (Q.upt Q.t30 53 ⟨true, true, false, false, 2, 18, 3⟩)
def Q.t32 : Nat → Q.Sh := (Q.upt Q.t31 54 ⟨true, false, true, false, 2, 18, 4⟩)
def Q.shf : Nat → Q.Sh := Q.t32
theorem Shapes_rd  : A.Rd Try.prog 93 #[] [] (.agg (Q.tab Q.t32).toArray) := by
 intro w oo aa hh
 refine E.enter (n := 61) (S := oo) Try.func93 rfl rfl (by kernel_rfl) (A.start (L := []) hh) ?_
 refine E.sr ?_
 refine E.G.new (fun g => .pointer (some ⟨g, 0, none⟩)) (Q.tab (fun _ => Q.sh0)) 145 (fun w => by kernel_rfl) (by kernel_rfl) (fun g1 => ?_)
 refine E.tr ?_
 refine E.G.new (fun g => .pointer (some ⟨g, 0, none⟩)) (Q.tab (fun _ => Q.sh0)) 145 (fun w => by kernel_rfl) (by kernel_rfl) (fun g2 => ?_)
 refine E.tr ?_
 refine E.op (.func (.func 95) #[] #[.pointer (some ⟨g2, 0, none⟩)]) ?_
 refine E.op (.func (.func 95) #[] #[.pointer (some ⟨g2, 0, none⟩)]) ?_
 refine E.To.code ?_
 refine E.C.seq ?_
 refine E.sr ?_
 refine E.op (.int .i64 1) ?_
 refine E.To.code ?_
 refine E.C.block ?_
 refine E.C.rounds 12 ?_
 refine E.C.seq ?_
 refine E.sr ?_
 refine E.op (.int .i64 1) ?_
 refine E.op (.bool true) ?_
 refine E.To.code ?_
 refine E.C.condT (by kernel_rfl) (by kernel_rfl) ?_
 refine E.C.skip (E.To.code ?_)
 refine E.C.seq ?_
 refine E.C.block ?_
 refine E.C.region ?_
 refine E.op (.func (.func 95) #[] #[.pointer (some ⟨g2, 0, none⟩)]) ?_
 refine E.vl (.agg #[.bool false, .bool true, .bool true, .bool true, .int .i64 0, .int .i64 0, .int .u32 0]) (fun w h => E.run_build #[.bool false, .bool true, .bool true, .bool true, .int .i64 0, .int .i64 0, .int .u32 0] (by kernel_rfl) w) ?_
 refine E.op (.int .i64 1) ?_
 refine E.G.buildSlice [.int .i64 1] (by kernel_rfl) (by kernel_rfl) (fun g3 => ?_)
 refine A.G.call (I := Unit) (D := fun _ => True) (V := fun _ => .tuple #[]) (q := fun _ => [A.blk g2 (Q.tab Q.t0), A.blk g3 ([.int .i64 1])]) [A.blk g1 (Q.tab (fun _ => Q.sh0))] (fun _ => [(g2, (Q.tab Q.t0)), (g3, [.int .i64 1]), (g1, (Q.tab (fun _ => Q.sh0)))]) (fun _ => []) (Set1 (gt := g2) (go := g3) (f := (fun _ => Q.sh0)) ⟨false, true, true, true, 0, 0, 0⟩ 1 (by decide)) (by kernel_rfl) (A.pn [1, 0, 2]) (fun _ => A.pm [0, 1, 2] (by kernel_rfl) (by kernel_rfl)) (fun w _ => by kernel_rfl) (by kernel_rfl) (fun _ hd4 => ?_)
 refine E.P.nb (E.To.code ?_)
 refine E.C.region ?_
 refine E.op (.int .i64 1) ?_
 refine E.op (.int .i64 2) ?_
 refine E.op (.int .i64 2) ?_
 refine E.To.rounds 11 ?_
 refine E.wk [(0, .pointer (some ⟨g1, 0, none⟩)), (1, .pointer (some ⟨g2, 0, none⟩)), (2, .func (.func 95) #[] #[.pointer (some ⟨g2, 0, none⟩)]), (3, .int .i64 2), (6, .int .i64 1), (7, .bool true), (8, .int .i64 1), (9, .int .i64 2), (10, .func (.func 95) #[] #[.pointer (some ⟨g2, 0, none⟩)]), (11, .agg #[.bool false, .bool true, .bool true, .bool true, .int .i64 0, .int .i64 0, .int .u32 0]), (12, .int .i64 1), (13, .slice (some ⟨g3, 0, none⟩) 1 1)] [(g2, (Q.tab Q.t0)), (g3, [.int .i64 1]), (g1, (Q.tab (fun _ => Q.sh0)))] (List.Sublist.refl _) ?_
 refine E.C.seq ?_
 refine E.sr ?_
 refine E.op (.int .i64 2) ?_
 refine E.op (.bool true) ?_
 refine E.To.code ?_
 refine E.C.condT (by kernel_rfl) (by kernel_rfl) ?_
 refine E.C.skip (E.To.code ?_)
 refine E.C.seq ?_
 refine E.C.block ?_
 refine E.C.region ?_
 refine E.op (.func (.func 95) #[] #[.pointer (some ⟨g2, 0, none⟩)]) ?_
 refine E.vl (.agg #[.bool false, .bool true, .bool true, .bool true, .int .i64 0, .int .i64 0, .int .u32 0]) (fun w h => E.run_build #[.bool false, .bool true, .bool true, .bool true, .int .i64 0, .int .i64 0, .int .u32 0] (by kernel_rfl) w) ?_
 refine E.op (.int .i64 2) ?_
 refine E.G.buildSlice [.int .i64 2] (by kernel_rfl) (by kernel_rfl) (fun g5 => ?_)
 refine A.G.call (I := Unit) (D := fun _ => True) (V := fun _ => .tuple #[]) (q := fun _ => [A.blk g2 (Q.tab Q.t1), A.blk g5 ([.int .i64 2])]) [A.blk g3 ([.int .i64 1]), A.blk g1 (Q.tab (fun _ => Q.sh0))] (fun _ => [(g2, (Q.tab Q.t1)), (g5, [.int .i64 2]), (g3, [.int .i64 1]), (g1, (Q.tab (fun _ => Q.sh0)))]) (fun _ => []) (Set1 (gt := g2) (go := g5) (f := Q.t0) ⟨false, true, true, true, 0, 0, 0⟩ 2 (by decide)) (by kernel_rfl) (A.pn [1, 0, 2, 3]) (fun _ => A.pm [0, 1, 2, 3] (by kernel_rfl) (by kernel_rfl)) (fun w _ => by kernel_rfl) (by kernel_rfl) (fun _ hd6 => ?_)
 refine E.P.nb (E.To.code ?_)
 refine E.C.region ?_
 refine E.op (.int .i64 2) ?_
 refine E.op (.int .i64 3) ?_
 refine E.op (.int .i64 3) ?_
 refine E.To.rounds 10 ?_
 refine E.wk [(0, .pointer (some ⟨g1, 0, none⟩)), (1, .pointer (some ⟨g2, 0, none⟩)), (2, .func (.func 95) #[] #[.pointer (some ⟨g2, 0, none⟩)]), (3, .int .i64 3), (6, .int .i64 2), (7, .bool true), (8, .int .i64 2), (9, .int .i64 3), (10, .func (.func 95) #[] #[.pointer (some ⟨g2, 0, none⟩)]), (11, .agg #[.bool false, .bool true, .bool true, .bool true, .int .i64 0, .int .i64 0, .int .u32 0]), (12, .int .i64 2), (13, .slice (some ⟨g5, 0, none⟩) 1 1)] [(g2, (Q.tab Q.t1)), (g5, [.int .i64 2]), (g1, (Q.tab (fun _ => Q.sh0)))] (List.Sublist.cons_cons _ (List.Sublist.cons_cons _ (List.Sublist.cons _ (List.Sublist.refl _)))) ?_
 refine E.C.seq ?_
 refine E.sr ?_
 refine E.op (.int .i64 3) ?_
 refine E.op (.bool true) ?_
 refine E.To.code ?_
 refine E.C.condT (by kernel_rfl) (by kernel_rfl) ?_
 refine E.C.skip (E.To.code ?_)
 refine E.C.seq ?_
 refine E.C.block ?_
 refine E.C.region ?_
 refine E.op (.func (.func 95) #[] #[.pointer (some ⟨g2, 0, none⟩)]) ?_
 refine E.vl (.agg #[.bool false, .bool true, .bool true, .bool true, .int .i64 0, .int .i64 0, .int .u32 0]) (fun w h => E.run_build #[.bool false, .bool true, .bool true, .bool true, .int .i64 0, .int .i64 0, .int .u32 0] (by kernel_rfl) w) ?_
 refine E.op (.int .i64 3) ?_
 refine E.G.buildSlice [.int .i64 3] (by kernel_rfl) (by kernel_rfl) (fun g7 => ?_)
 refine A.G.call (I := Unit) (D := fun _ => True) (V := fun _ => .tuple #[]) (q := fun _ => [A.blk g2 (Q.tab Q.t2), A.blk g7 ([.int .i64 3])]) [A.blk g5 ([.int .i64 2]), A.blk g1 (Q.tab (fun _ => Q.sh0))] (fun _ => [(g2, (Q.tab Q.t2)), (g7, [.int .i64 3]), (g5, [.int .i64 2]), (g1, (Q.tab (fun _ => Q.sh0)))]) (fun _ => []) (Set1 (gt := g2) (go := g7) (f := Q.t1) ⟨false, true, true, true, 0, 0, 0⟩ 3 (by decide)) (by kernel_rfl) (A.pn [1, 0, 2, 3]) (fun _ => A.pm [0, 1, 2, 3] (by kernel_rfl) (by kernel_rfl)) (fun w _ => by kernel_rfl) (by kernel_rfl) (fun _ hd8 => ?_)
 refine E.P.nb (E.To.code ?_)
 refine E.C.region ?_
 refine E.op (.int .i64 3) ?_
 refine E.op (.int .i64 4) ?_
 refine E.op (.int .i64 4) ?_
 refine E.To.rounds 9 ?_
 refine E.wk [(0, .pointer (some ⟨g1, 0, none⟩)), (1, .pointer (some ⟨g2, 0, none⟩)), (2, .func (.func 95) #[] #[.pointer (some ⟨g2, 0, none⟩)]), (3, .int .i64 4), (6, .int .i64 3), (7, .bool true), (8, .int .i64 3), (9, .int .i64 4), (10, .func (.func 95) #[] #[.pointer (some ⟨g2, 0, none⟩)]), (11, .agg #[.bool false, .bool true, .bool true, .bool true, .int .i64 0, .int .i64 0, .int .u32 0]), (12, .int .i64 3), (13, .slice (some ⟨g7, 0, none⟩) 1 1)] [(g2, (Q.tab Q.t2)), (g7, [.int .i64 3]), (g1, (Q.tab (fun _ => Q.sh0)))] (List.Sublist.cons_cons _ (List.Sublist.cons_cons _ (List.Sublist.cons _ (List.Sublist.refl _)))) ?_
 refine E.C.seq ?_
 refine E.sr ?_
 refine E.op (.int .i64 4) ?_
 refine E.op (.bool true) ?_
 refine E.To.code ?_
 refine E.C.condT (by kernel_rfl) (by kernel_rfl) ?_
 refine E.C.skip (E.To.code ?_)
 refine E.C.seq ?_
 refine E.C.block ?_
 refine E.C.region ?_
 refine E.op (.func (.func 95) #[] #[.pointer (some ⟨g2, 0, none⟩)]) ?_
 refine E.vl (.agg #[.bool false, .bool true, .bool true, .bool true, .int .i64 0, .int .i64 0, .int .u32 0]) (fun w h => E.run_build #[.bool false, .bool true, .bool true, .bool true, .int .i64 0, .int .i64 0, .int .u32 0] (by kernel_rfl) w) ?_
 refine E.op (.int .i64 4) ?_
 refine E.G.buildSlice [.int .i64 4] (by kernel_rfl) (by kernel_rfl) (fun g9 => ?_)
 refine A.G.call (I := Unit) (D := fun _ => True) (V := fun _ => .tuple #[]) (q := fun _ => [A.blk g2 (Q.tab Q.t3), A.blk g9 ([.int .i64 4])]) [A.blk g7 ([.int .i64 3]), A.blk g1 (Q.tab (fun _ => Q.sh0))] (fun _ => [(g2, (Q.tab Q.t3)), (g9, [.int .i64 4]), (g7, [.int .i64 3]), (g1, (Q.tab (fun _ => Q.sh0)))]) (fun _ => []) (Set1 (gt := g2) (go := g9) (f := Q.t2) ⟨false, true, true, true, 0, 0, 0⟩ 4 (by decide)) (by kernel_rfl) (A.pn [1, 0, 2, 3]) (fun _ => A.pm [0, 1, 2, 3] (by kernel_rfl) (by kernel_rfl)) (fun w _ => by kernel_rfl) (by kernel_rfl) (fun _ hd10 => ?_)
 refine E.P.nb (E.To.code ?_)
 refine E.C.region ?_
 refine E.op (.int .i64 4) ?_
 refine E.op (.int .i64 5) ?_
 refine E.op (.int .i64 5) ?_
 refine E.To.rounds 8 ?_
 refine E.wk [(0, .pointer (some ⟨g1, 0, none⟩)), (1, .pointer (some ⟨g2, 0, none⟩)), (2, .func (.func 95) #[] #[.pointer (some ⟨g2, 0, none⟩)]), (3, .int .i64 5), (6, .int .i64 4), (7, .bool true), (8, .int .i64 4), (9, .int .i64 5), (10, .func (.func 95) #[] #[.pointer (some ⟨g2, 0, none⟩)]), (11, .agg #[.bool false, .bool true, .bool true, .bool true, .int .i64 0, .int .i64 0, .int .u32 0]), (12, .int .i64 4), (13, .slice (some ⟨g9, 0, none⟩) 1 1)] [(g2, (Q.tab Q.t3)), (g9, [.int .i64 4]), (g1, (Q.tab (fun _ => Q.sh0)))] (List.Sublist.cons_cons _ (List.Sublist.cons_cons _ (List.Sublist.cons _ (List.Sublist.refl _)))) ?_
 refine E.C.seq ?_
 refine E.sr ?_
 refine E.op (.int .i64 5) ?_
 refine E.op (.bool true) ?_
 refine E.To.code ?_
 refine E.C.condT (by kernel_rfl) (by kernel_rfl) ?_
 refine E.C.skip (E.To.code ?_)
 refine E.C.seq ?_
 refine E.C.block ?_
 refine E.C.region ?_
 refine E.op (.func (.func 95) #[] #[.pointer (some ⟨g2, 0, none⟩)]) ?_
 refine E.vl (.agg #[.bool false, .bool true, .bool true, .bool true, .int .i64 0, .int .i64 0, .int .u32 0]) (fun w h => E.run_build #[.bool false, .bool true, .bool true, .bool true, .int .i64 0, .int .i64 0, .int .u32 0] (by kernel_rfl) w) ?_
 refine E.op (.int .i64 5) ?_
 refine E.G.buildSlice [.int .i64 5] (by kernel_rfl) (by kernel_rfl) (fun g11 => ?_)
 refine A.G.call (I := Unit) (D := fun _ => True) (V := fun _ => .tuple #[]) (q := fun _ => [A.blk g2 (Q.tab Q.t4), A.blk g11 ([.int .i64 5])]) [A.blk g9 ([.int .i64 4]), A.blk g1 (Q.tab (fun _ => Q.sh0))] (fun _ => [(g2, (Q.tab Q.t4)), (g11, [.int .i64 5]), (g9, [.int .i64 4]), (g1, (Q.tab (fun _ => Q.sh0)))]) (fun _ => []) (Set1 (gt := g2) (go := g11) (f := Q.t3) ⟨false, true, true, true, 0, 0, 0⟩ 5 (by decide)) (by kernel_rfl) (A.pn [1, 0, 2, 3]) (fun _ => A.pm [0, 1, 2, 3] (by kernel_rfl) (by kernel_rfl)) (fun w _ => by kernel_rfl) (by kernel_rfl) (fun _ hd12 => ?_)
 refine E.P.nb (E.To.code ?_)
 refine E.C.region ?_
 refine E.op (.int .i64 5) ?_
 refine E.op (.int .i64 6) ?_
 refine E.op (.int .i64 6) ?_
 refine E.To.rounds 7 ?_
 refine E.wk [(0, .pointer (some ⟨g1, 0, none⟩)), (1, .pointer (some ⟨g2, 0, none⟩)), (2, .func (.func 95) #[] #[.pointer (some ⟨g2, 0, none⟩)]), (3, .int .i64 6), (6, .int .i64 5), (7, .bool true), (8, .int .i64 5), (9, .int .i64 6), (10, .func (.func 95) #[] #[.pointer (some ⟨g2, 0, none⟩)]), (11, .agg #[.bool false, .bool true, .bool true, .bool true, .int .i64 0, .int .i64 0, .int .u32 0]), (12, .int .i64 5), (13, .slice (some ⟨g11, 0, none⟩) 1 1)] [(g2, (Q.tab Q.t4)), (g11, [.int .i64 5]), (g1, (Q.tab (fun _ => Q.sh0)))] (List.Sublist.cons_cons _ (List.Sublist.cons_cons _ (List.Sublist.cons _ (List.Sublist.refl _)))) ?_
 refine E.C.seq ?_
 refine E.sr ?_
 refine E.op (.int .i64 6) ?_
 refine E.op (.bool true) ?_
 refine E.To.code ?_
 refine E.C.condT (by kernel_rfl) (by kernel_rfl) ?_
 refine E.C.skip (E.To.code ?_)
 refine E.C.seq ?_
 refine E.C.block ?_
 refine E.C.region ?_
 refine E.op (.func (.func 95) #[] #[.pointer (some ⟨g2, 0, none⟩)]) ?_
 refine E.vl (.agg #[.bool false, .bool true, .bool true, .bool true, .int .i64 0, .int .i64 0, .int .u32 0]) (fun w h => E.run_build #[.bool false, .bool true, .bool true, .bool true, .int .i64 0, .int .i64 0, .int .u32 0] (by kernel_rfl) w) ?_
 refine E.op (.int .i64 6) ?_
 refine E.G.buildSlice [.int .i64 6] (by kernel_rfl) (by kernel_rfl) (fun g13 => ?_)
 refine A.G.call (I := Unit) (D := fun _ => True) (V := fun _ => .tuple #[]) (q := fun _ => [A.blk g2 (Q.tab Q.t5), A.blk g13 ([.int .i64 6])]) [A.blk g11 ([.int .i64 5]), A.blk g1 (Q.tab (fun _ => Q.sh0))] (fun _ => [(g2, (Q.tab Q.t5)), (g13, [.int .i64 6]), (g11, [.int .i64 5]), (g1, (Q.tab (fun _ => Q.sh0)))]) (fun _ => []) (Set1 (gt := g2) (go := g13) (f := Q.t4) ⟨false, true, true, true, 0, 0, 0⟩ 6 (by decide)) (by kernel_rfl) (A.pn [1, 0, 2, 3]) (fun _ => A.pm [0, 1, 2, 3] (by kernel_rfl) (by kernel_rfl)) (fun w _ => by kernel_rfl) (by kernel_rfl) (fun _ hd14 => ?_)
 refine E.P.nb (E.To.code ?_)
 refine E.C.region ?_
 refine E.op (.int .i64 6) ?_
 refine E.op (.int .i64 7) ?_
 refine E.op (.int .i64 7) ?_
 refine E.To.rounds 6 ?_
 refine E.wk [(0, .pointer (some ⟨g1, 0, none⟩)), (1, .pointer (some ⟨g2, 0, none⟩)), (2, .func (.func 95) #[] #[.pointer (some ⟨g2, 0, none⟩)]), (3, .int .i64 7), (6, .int .i64 6), (7, .bool true), (8, .int .i64 6), (9, .int .i64 7), (10, .func (.func 95) #[] #[.pointer (some ⟨g2, 0, none⟩)]), (11, .agg #[.bool false, .bool true, .bool true, .bool true, .int .i64 0, .int .i64 0, .int .u32 0]), (12, .int .i64 6), (13, .slice (some ⟨g13, 0, none⟩) 1 1)] [(g2, (Q.tab Q.t5)), (g13, [.int .i64 6]), (g1, (Q.tab (fun _ => Q.sh0)))] (List.Sublist.cons_cons _ (List.Sublist.cons_cons _ (List.Sublist.cons _ (List.Sublist.refl _)))) ?_
 refine E.C.seq ?_
 refine E.sr ?_
 refine E.op (.int .i64 7) ?_
 refine E.op (.bool true) ?_
 refine E.To.code ?_
 refine E.C.condT (by kernel_rfl) (by kernel_rfl) ?_
 refine E.C.skip (E.To.code ?_)
 refine E.C.seq ?_
 refine E.C.block ?_
 refine E.C.region ?_
 refine E.op (.func (.func 95) #[] #[.pointer (some ⟨g2, 0, none⟩)]) ?_
 refine E.vl (.agg #[.bool false, .bool true, .bool true, .bool true, .int .i64 0, .int .i64 0, .int .u32 0]) (fun w h => E.run_build #[.bool false, .bool true, .bool true, .bool true, .int .i64 0, .int .i64 0, .int .u32 0] (by kernel_rfl) w) ?_
 refine E.op (.int .i64 7) ?_
 refine E.G.buildSlice [.int .i64 7] (by kernel_rfl) (by kernel_rfl) (fun g15 => ?_)
 refine A.G.call (I := Unit) (D := fun _ => True) (V := fun _ => .tuple #[]) (q := fun _ => [A.blk g2 (Q.tab Q.t6), A.blk g15 ([.int .i64 7])]) [A.blk g13 ([.int .i64 6]), A.blk g1 (Q.tab (fun _ => Q.sh0))] (fun _ => [(g2, (Q.tab Q.t6)), (g15, [.int .i64 7]), (g13, [.int .i64 6]), (g1, (Q.tab (fun _ => Q.sh0)))]) (fun _ => []) (Set1 (gt := g2) (go := g15) (f := Q.t5) ⟨false, true, true, true, 0, 0, 0⟩ 7 (by decide)) (by kernel_rfl) (A.pn [1, 0, 2, 3]) (fun _ => A.pm [0, 1, 2, 3] (by kernel_rfl) (by kernel_rfl)) (fun w _ => by kernel_rfl) (by kernel_rfl) (fun _ hd16 => ?_)
 refine E.P.nb (E.To.code ?_)
 refine E.C.region ?_
 refine E.op (.int .i64 7) ?_
 refine E.op (.int .i64 8) ?_
 refine E.op (.int .i64 8) ?_
 refine E.To.rounds 5 ?_
 refine E.wk [(0, .pointer (some ⟨g1, 0, none⟩)), (1, .pointer (some ⟨g2, 0, none⟩)), (2, .func (.func 95) #[] #[.pointer (some ⟨g2, 0, none⟩)]), (3, .int .i64 8), (6, .int .i64 7), (7, .bool true), (8, .int .i64 7), (9, .int .i64 8), (10, .func (.func 95) #[] #[.pointer (some ⟨g2, 0, none⟩)]), (11, .agg #[.bool false, .bool true, .bool true, .bool true, .int .i64 0, .int .i64 0, .int .u32 0]), (12, .int .i64 7), (13, .slice (some ⟨g15, 0, none⟩) 1 1)] [(g2, (Q.tab Q.t6)), (g15, [.int .i64 7]), (g1, (Q.tab (fun _ => Q.sh0)))] (List.Sublist.cons_cons _ (List.Sublist.cons_cons _ (List.Sublist.cons _ (List.Sublist.refl _)))) ?_
 refine E.C.seq ?_
 refine E.sr ?_
 refine E.op (.int .i64 8) ?_
 refine E.op (.bool true) ?_
 refine E.To.code ?_
 refine E.C.condT (by kernel_rfl) (by kernel_rfl) ?_
 refine E.C.skip (E.To.code ?_)
 refine E.C.seq ?_
 refine E.C.block ?_
 refine E.C.region ?_
 refine E.op (.func (.func 95) #[] #[.pointer (some ⟨g2, 0, none⟩)]) ?_
 refine E.vl (.agg #[.bool false, .bool true, .bool true, .bool true, .int .i64 0, .int .i64 0, .int .u32 0]) (fun w h => E.run_build #[.bool false, .bool true, .bool true, .bool true, .int .i64 0, .int .i64 0, .int .u32 0] (by kernel_rfl) w) ?_
 refine E.op (.int .i64 8) ?_
 refine E.G.buildSlice [.int .i64 8] (by kernel_rfl) (by kernel_rfl) (fun g17 => ?_)
 refine A.G.call (I := Unit) (D := fun _ => True) (V := fun _ => .tuple #[]) (q := fun _ => [A.blk g2 (Q.tab Q.t7), A.blk g17 ([.int .i64 8])]) [A.blk g15 ([.int .i64 7]), A.blk g1 (Q.tab (fun _ => Q.sh0))] (fun _ => [(g2, (Q.tab Q.t7)), (g17, [.int .i64 8]), (g15, [.int .i64 7]), (g1, (Q.tab (fun _ => Q.sh0)))]) (fun _ => []) (Set1 (gt := g2) (go := g17) (f := Q.t6) ⟨false, true, true, true, 0, 0, 0⟩ 8 (by decide)) (by kernel_rfl) (A.pn [1, 0, 2, 3]) (fun _ => A.pm [0, 1, 2, 3] (by kernel_rfl) (by kernel_rfl)) (fun w _ => by kernel_rfl) (by kernel_rfl) (fun _ hd18 => ?_)
 refine E.P.nb (E.To.code ?_)
 refine E.C.region ?_
 refine E.op (.int .i64 8) ?_
 refine E.op (.int .i64 9) ?_
 refine E.op (.int .i64 9) ?_
 refine E.To.rounds 4 ?_
 refine E.wk [(0, .pointer (some ⟨g1, 0, none⟩)), (1, .pointer (some ⟨g2, 0, none⟩)), (2, .func (.func 95) #[] #[.pointer (some ⟨g2, 0, none⟩)]), (3, .int .i64 9), (6, .int .i64 8), (7, .bool true), (8, .int .i64 8), (9, .int .i64 9), (10, .func (.func 95) #[] #[.pointer (some ⟨g2, 0, none⟩)]), (11, .agg #[.bool false, .bool true, .bool true, .bool true, .int .i64 0, .int .i64 0, .int .u32 0]), (12, .int .i64 8), (13, .slice (some ⟨g17, 0, none⟩) 1 1)] [(g2, (Q.tab Q.t7)), (g17, [.int .i64 8]), (g1, (Q.tab (fun _ => Q.sh0)))] (List.Sublist.cons_cons _ (List.Sublist.cons_cons _ (List.Sublist.cons _ (List.Sublist.refl _)))) ?_
 refine E.C.seq ?_
 refine E.sr ?_
 refine E.op (.int .i64 9) ?_
 refine E.op (.bool true) ?_
 refine E.To.code ?_
 refine E.C.condT (by kernel_rfl) (by kernel_rfl) ?_
 refine E.C.skip (E.To.code ?_)
 refine E.C.seq ?_
 refine E.C.block ?_
 refine E.C.region ?_
 refine E.op (.func (.func 95) #[] #[.pointer (some ⟨g2, 0, none⟩)]) ?_
 refine E.vl (.agg #[.bool false, .bool true, .bool true, .bool true, .int .i64 0, .int .i64 0, .int .u32 0]) (fun w h => E.run_build #[.bool false, .bool true, .bool true, .bool true, .int .i64 0, .int .i64 0, .int .u32 0] (by kernel_rfl) w) ?_
 refine E.op (.int .i64 9) ?_
 refine E.G.buildSlice [.int .i64 9] (by kernel_rfl) (by kernel_rfl) (fun g19 => ?_)
 refine A.G.call (I := Unit) (D := fun _ => True) (V := fun _ => .tuple #[]) (q := fun _ => [A.blk g2 (Q.tab Q.t8), A.blk g19 ([.int .i64 9])]) [A.blk g17 ([.int .i64 8]), A.blk g1 (Q.tab (fun _ => Q.sh0))] (fun _ => [(g2, (Q.tab Q.t8)), (g19, [.int .i64 9]), (g17, [.int .i64 8]), (g1, (Q.tab (fun _ => Q.sh0)))]) (fun _ => []) (Set1 (gt := g2) (go := g19) (f := Q.t7) ⟨false, true, true, true, 0, 0, 0⟩ 9 (by decide)) (by kernel_rfl) (A.pn [1, 0, 2, 3]) (fun _ => A.pm [0, 1, 2, 3] (by kernel_rfl) (by kernel_rfl)) (fun w _ => by kernel_rfl) (by kernel_rfl) (fun _ hd20 => ?_)
 refine E.P.nb (E.To.code ?_)
 refine E.C.region ?_
 refine E.op (.int .i64 9) ?_
 refine E.op (.int .i64 10) ?_
 refine E.op (.int .i64 10) ?_
 refine E.To.rounds 3 ?_
 refine E.wk [(0, .pointer (some ⟨g1, 0, none⟩)), (1, .pointer (some ⟨g2, 0, none⟩)), (2, .func (.func 95) #[] #[.pointer (some ⟨g2, 0, none⟩)]), (3, .int .i64 10), (6, .int .i64 9), (7, .bool true), (8, .int .i64 9), (9, .int .i64 10), (10, .func (.func 95) #[] #[.pointer (some ⟨g2, 0, none⟩)]), (11, .agg #[.bool false, .bool true, .bool true, .bool true, .int .i64 0, .int .i64 0, .int .u32 0]), (12, .int .i64 9), (13, .slice (some ⟨g19, 0, none⟩) 1 1)] [(g2, (Q.tab Q.t8)), (g19, [.int .i64 9]), (g1, (Q.tab (fun _ => Q.sh0)))] (List.Sublist.cons_cons _ (List.Sublist.cons_cons _ (List.Sublist.cons _ (List.Sublist.refl _)))) ?_
 refine E.C.seq ?_
 refine E.sr ?_
 refine E.op (.int .i64 10) ?_
 refine E.op (.bool true) ?_
 refine E.To.code ?_
 refine E.C.condT (by kernel_rfl) (by kernel_rfl) ?_
 refine E.C.skip (E.To.code ?_)
 refine E.C.seq ?_
 refine E.C.block ?_
 refine E.C.region ?_
 refine E.op (.func (.func 95) #[] #[.pointer (some ⟨g2, 0, none⟩)]) ?_
 refine E.vl (.agg #[.bool false, .bool true, .bool true, .bool true, .int .i64 0, .int .i64 0, .int .u32 0]) (fun w h => E.run_build #[.bool false, .bool true, .bool true, .bool true, .int .i64 0, .int .i64 0, .int .u32 0] (by kernel_rfl) w) ?_
 refine E.op (.int .i64 10) ?_
 refine E.G.buildSlice [.int .i64 10] (by kernel_rfl) (by kernel_rfl) (fun g21 => ?_)
 refine A.G.call (I := Unit) (D := fun _ => True) (V := fun _ => .tuple #[]) (q := fun _ => [A.blk g2 (Q.tab Q.t9), A.blk g21 ([.int .i64 10])]) [A.blk g19 ([.int .i64 9]), A.blk g1 (Q.tab (fun _ => Q.sh0))] (fun _ => [(g2, (Q.tab Q.t9)), (g21, [.int .i64 10]), (g19, [.int .i64 9]), (g1, (Q.tab (fun _ => Q.sh0)))]) (fun _ => []) (Set1 (gt := g2) (go := g21) (f := Q.t8) ⟨false, true, true, true, 0, 0, 0⟩ 10 (by decide)) (by kernel_rfl) (A.pn [1, 0, 2, 3]) (fun _ => A.pm [0, 1, 2, 3] (by kernel_rfl) (by kernel_rfl)) (fun w _ => by kernel_rfl) (by kernel_rfl) (fun _ hd22 => ?_)
 refine E.P.nb (E.To.code ?_)
 refine E.C.region ?_
 refine E.op (.int .i64 10) ?_
 refine E.op (.int .i64 11) ?_
 refine E.op (.int .i64 11) ?_
 refine E.To.rounds 2 ?_
 refine E.wk [(0, .pointer (some ⟨g1, 0, none⟩)), (1, .pointer (some ⟨g2, 0, none⟩)), (2, .func (.func 95) #[] #[.pointer (some ⟨g2, 0, none⟩)]), (3, .int .i64 11), (6, .int .i64 10), (7, .bool true), (8, .int .i64 10), (9, .int .i64 11), (10, .func (.func 95) #[] #[.pointer (some ⟨g2, 0, none⟩)]), (11, .agg #[.bool false, .bool true, .bool true, .bool true, .int .i64 0, .int .i64 0, .int .u32 0]), (12, .int .i64 10), (13, .slice (some ⟨g21, 0, none⟩) 1 1)] [(g2, (Q.tab Q.t9)), (g21, [.int .i64 10]), (g1, (Q.tab (fun _ => Q.sh0)))] (List.Sublist.cons_cons _ (List.Sublist.cons_cons _ (List.Sublist.cons _ (List.Sublist.refl _)))) ?_
 refine E.C.seq ?_
 refine E.sr ?_
 refine E.op (.int .i64 11) ?_
 refine E.op (.bool true) ?_
 refine E.To.code ?_
 refine E.C.condT (by kernel_rfl) (by kernel_rfl) ?_
 refine E.C.skip (E.To.code ?_)
 refine E.C.seq ?_
 refine E.C.block ?_
 refine E.C.region ?_
 refine E.op (.func (.func 95) #[] #[.pointer (some ⟨g2, 0, none⟩)]) ?_
 refine E.vl (.agg #[.bool false, .bool true, .bool true, .bool true, .int .i64 0, .int .i64 0, .int .u32 0]) (fun w h => E.run_build #[.bool false, .bool true, .bool true, .bool true, .int .i64 0, .int .i64 0, .int .u32 0] (by kernel_rfl) w) ?_
 refine E.op (.int .i64 11) ?_
 refine E.G.buildSlice [.int .i64 11] (by kernel_rfl) (by kernel_rfl) (fun g23 => ?_)
 refine A.G.call (I := Unit) (D := fun _ => True) (V := fun _ => .tuple #[]) (q := fun _ => [A.blk g2 (Q.tab Q.t10), A.blk g23 ([.int .i64 11])]) [A.blk g21 ([.int .i64 10]), A.blk g1 (Q.tab (fun _ => Q.sh0))] (fun _ => [(g2, (Q.tab Q.t10)), (g23, [.int .i64 11]), (g21, [.int .i64 10]), (g1, (Q.tab (fun _ => Q.sh0)))]) (fun _ => []) (Set1 (gt := g2) (go := g23) (f := Q.t9) ⟨false, true, true, true, 0, 0, 0⟩ 11 (by decide)) (by kernel_rfl) (A.pn [1, 0, 2, 3]) (fun _ => A.pm [0, 1, 2, 3] (by kernel_rfl) (by kernel_rfl)) (fun w _ => by kernel_rfl) (by kernel_rfl) (fun _ hd24 => ?_)
 refine E.P.nb (E.To.code ?_)
 refine E.C.region ?_
 refine E.op (.int .i64 11) ?_
 refine E.op (.int .i64 12) ?_
 refine E.op (.int .i64 12) ?_
 refine E.To.rounds 1 ?_
 refine E.wk [(0, .pointer (some ⟨g1, 0, none⟩)), (1, .pointer (some ⟨g2, 0, none⟩)), (2, .func (.func 95) #[] #[.pointer (some ⟨g2, 0, none⟩)]), (3, .int .i64 12), (6, .int .i64 11), (7, .bool true), (8, .int .i64 11), (9, .int .i64 12), (10, .func (.func 95) #[] #[.pointer (some ⟨g2, 0, none⟩)]), (11, .agg #[.bool false, .bool true, .bool true, .bool true, .int .i64 0, .int .i64 0, .int .u32 0]), (12, .int .i64 11), (13, .slice (some ⟨g23, 0, none⟩) 1 1)] [(g2, (Q.tab Q.t10)), (g23, [.int .i64 11]), (g1, (Q.tab (fun _ => Q.sh0)))] (List.Sublist.cons_cons _ (List.Sublist.cons_cons _ (List.Sublist.cons _ (List.Sublist.refl _)))) ?_
 refine E.C.seq ?_
 refine E.sr ?_
 refine E.op (.int .i64 12) ?_
 refine E.op (.bool true) ?_
 refine E.To.code ?_
 refine E.C.condT (by kernel_rfl) (by kernel_rfl) ?_
 refine E.C.skip (E.To.code ?_)
 refine E.C.seq ?_
 refine E.C.block ?_
 refine E.C.region ?_
 refine E.op (.func (.func 95) #[] #[.pointer (some ⟨g2, 0, none⟩)]) ?_
 refine E.vl (.agg #[.bool false, .bool true, .bool true, .bool true, .int .i64 0, .int .i64 0, .int .u32 0]) (fun w h => E.run_build #[.bool false, .bool true, .bool true, .bool true, .int .i64 0, .int .i64 0, .int .u32 0] (by kernel_rfl) w) ?_
 refine E.op (.int .i64 12) ?_
 refine E.G.buildSlice [.int .i64 12] (by kernel_rfl) (by kernel_rfl) (fun g25 => ?_)
 refine A.G.call (I := Unit) (D := fun _ => True) (V := fun _ => .tuple #[]) (q := fun _ => [A.blk g2 (Q.tab Q.t11), A.blk g25 ([.int .i64 12])]) [A.blk g23 ([.int .i64 11]), A.blk g1 (Q.tab (fun _ => Q.sh0))] (fun _ => [(g2, (Q.tab Q.t11)), (g25, [.int .i64 12]), (g23, [.int .i64 11]), (g1, (Q.tab (fun _ => Q.sh0)))]) (fun _ => []) (Set1 (gt := g2) (go := g25) (f := Q.t10) ⟨false, true, true, true, 0, 0, 0⟩ 12 (by decide)) (by kernel_rfl) (A.pn [1, 0, 2, 3]) (fun _ => A.pm [0, 1, 2, 3] (by kernel_rfl) (by kernel_rfl)) (fun w _ => by kernel_rfl) (by kernel_rfl) (fun _ hd26 => ?_)
 refine E.P.nb (E.To.code ?_)
 refine E.C.region ?_
 refine E.op (.int .i64 12) ?_
 refine E.op (.int .i64 13) ?_
 refine E.op (.int .i64 13) ?_
 refine E.To.rounds 0 ?_
 refine E.wk [(0, .pointer (some ⟨g1, 0, none⟩)), (1, .pointer (some ⟨g2, 0, none⟩)), (2, .func (.func 95) #[] #[.pointer (some ⟨g2, 0, none⟩)]), (3, .int .i64 13), (6, .int .i64 12), (7, .bool true), (8, .int .i64 12), (9, .int .i64 13), (10, .func (.func 95) #[] #[.pointer (some ⟨g2, 0, none⟩)]), (11, .agg #[.bool false, .bool true, .bool true, .bool true, .int .i64 0, .int .i64 0, .int .u32 0]), (12, .int .i64 12), (13, .slice (some ⟨g25, 0, none⟩) 1 1)] [(g2, (Q.tab Q.t11)), (g25, [.int .i64 12]), (g1, (Q.tab (fun _ => Q.sh0)))] (List.Sublist.cons_cons _ (List.Sublist.cons_cons _ (List.Sublist.cons _ (List.Sublist.refl _)))) ?_
 refine E.C.seq ?_
 refine E.sr ?_
 refine E.op (.int .i64 13) ?_
 refine E.op (.bool false) ?_
 refine E.To.code ?_
 refine E.C.condF (by kernel_rfl) (by kernel_rfl) ?_
 refine E.C.exit (E.P.et (E.P.et (E.P.eh (E.To.code ?_))))
 refine E.wk [(0, .pointer (some ⟨g1, 0, none⟩)), (1, .pointer (some ⟨g2, 0, none⟩)), (2, .func (.func 95) #[] #[.pointer (some ⟨g2, 0, none⟩)])] [(g2, (Q.tab Q.t11)), (g1, (Q.tab (fun _ => Q.sh0)))] (List.Sublist.cons_cons _ (List.Sublist.cons _ (List.Sublist.refl _))) ?_
 refine E.C.seq ?_
 refine E.sr ?_
 refine E.op (.int .i64 16) ?_
 refine E.To.code ?_
 refine E.C.block ?_
 refine E.C.rounds 12 ?_
 refine E.C.seq ?_
 refine E.sr ?_
 refine E.op (.int .i64 16) ?_
 refine E.op (.bool true) ?_
 refine E.To.code ?_
 refine E.C.condT (by kernel_rfl) (by kernel_rfl) ?_
 refine E.C.skip (E.To.code ?_)
 refine E.C.seq ?_
 refine E.C.block ?_
 refine E.C.region ?_
 refine E.op (.func (.func 95) #[] #[.pointer (some ⟨g2, 0, none⟩)]) ?_
 refine E.vl (.agg #[.bool false, .bool true, .bool true, .bool false, .int .i64 1, .int .i64 18, .int .u32 0]) (fun w h => E.run_build #[.bool false, .bool true, .bool true, .bool false, .int .i64 1, .int .i64 18, .int .u32 0] (by kernel_rfl) w) ?_
 refine E.op (.int .i64 16) ?_
 refine E.G.buildSlice [.int .i64 16] (by kernel_rfl) (by kernel_rfl) (fun g27 => ?_)
 refine A.G.call (I := Unit) (D := fun _ => True) (V := fun _ => .tuple #[]) (q := fun _ => [A.blk g2 (Q.tab Q.t12), A.blk g27 ([.int .i64 16])]) [A.blk g1 (Q.tab (fun _ => Q.sh0))] (fun _ => [(g2, (Q.tab Q.t12)), (g27, [.int .i64 16]), (g1, (Q.tab (fun _ => Q.sh0)))]) (fun _ => []) (Set1 (gt := g2) (go := g27) (f := Q.t11) ⟨false, true, true, false, 1, 18, 0⟩ 16 (by decide)) (by kernel_rfl) (A.pn [1, 0, 2]) (fun _ => A.pm [0, 1, 2] (by kernel_rfl) (by kernel_rfl)) (fun w _ => by kernel_rfl) (by kernel_rfl) (fun _ hd28 => ?_)
 refine E.P.nb (E.To.code ?_)
 refine E.C.region ?_
 refine E.op (.int .i64 16) ?_
 refine E.op (.int .i64 17) ?_
 refine E.op (.int .i64 17) ?_
 refine E.To.rounds 11 ?_
 refine E.wk [(0, .pointer (some ⟨g1, 0, none⟩)), (1, .pointer (some ⟨g2, 0, none⟩)), (2, .func (.func 95) #[] #[.pointer (some ⟨g2, 0, none⟩)]), (4, .int .i64 17), (15, .int .i64 16), (16, .bool true), (17, .int .i64 16), (18, .int .i64 17), (19, .func (.func 95) #[] #[.pointer (some ⟨g2, 0, none⟩)]), (20, .agg #[.bool false, .bool true, .bool true, .bool false, .int .i64 1, .int .i64 18, .int .u32 0]), (21, .int .i64 16), (22, .slice (some ⟨g27, 0, none⟩) 1 1)] [(g2, (Q.tab Q.t12)), (g27, [.int .i64 16]), (g1, (Q.tab (fun _ => Q.sh0)))] (List.Sublist.refl _) ?_
 refine E.C.seq ?_
 refine E.sr ?_
 refine E.op (.int .i64 17) ?_
 refine E.op (.bool true) ?_
 refine E.To.code ?_
 refine E.C.condT (by kernel_rfl) (by kernel_rfl) ?_
 refine E.C.skip (E.To.code ?_)
 refine E.C.seq ?_
 refine E.C.block ?_
 refine E.C.region ?_
 refine E.op (.func (.func 95) #[] #[.pointer (some ⟨g2, 0, none⟩)]) ?_
 refine E.vl (.agg #[.bool false, .bool true, .bool true, .bool false, .int .i64 1, .int .i64 18, .int .u32 0]) (fun w h => E.run_build #[.bool false, .bool true, .bool true, .bool false, .int .i64 1, .int .i64 18, .int .u32 0] (by kernel_rfl) w) ?_
 refine E.op (.int .i64 17) ?_
 refine E.G.buildSlice [.int .i64 17] (by kernel_rfl) (by kernel_rfl) (fun g29 => ?_)
 refine A.G.call (I := Unit) (D := fun _ => True) (V := fun _ => .tuple #[]) (q := fun _ => [A.blk g2 (Q.tab Q.t13), A.blk g29 ([.int .i64 17])]) [A.blk g27 ([.int .i64 16]), A.blk g1 (Q.tab (fun _ => Q.sh0))] (fun _ => [(g2, (Q.tab Q.t13)), (g29, [.int .i64 17]), (g27, [.int .i64 16]), (g1, (Q.tab (fun _ => Q.sh0)))]) (fun _ => []) (Set1 (gt := g2) (go := g29) (f := Q.t12) ⟨false, true, true, false, 1, 18, 0⟩ 17 (by decide)) (by kernel_rfl) (A.pn [1, 0, 2, 3]) (fun _ => A.pm [0, 1, 2, 3] (by kernel_rfl) (by kernel_rfl)) (fun w _ => by kernel_rfl) (by kernel_rfl) (fun _ hd30 => ?_)
 refine E.P.nb (E.To.code ?_)
 refine E.C.region ?_
 refine E.op (.int .i64 17) ?_
 refine E.op (.int .i64 18) ?_
 refine E.op (.int .i64 18) ?_
 refine E.To.rounds 10 ?_
 refine E.wk [(0, .pointer (some ⟨g1, 0, none⟩)), (1, .pointer (some ⟨g2, 0, none⟩)), (2, .func (.func 95) #[] #[.pointer (some ⟨g2, 0, none⟩)]), (4, .int .i64 18), (15, .int .i64 17), (16, .bool true), (17, .int .i64 17), (18, .int .i64 18), (19, .func (.func 95) #[] #[.pointer (some ⟨g2, 0, none⟩)]), (20, .agg #[.bool false, .bool true, .bool true, .bool false, .int .i64 1, .int .i64 18, .int .u32 0]), (21, .int .i64 17), (22, .slice (some ⟨g29, 0, none⟩) 1 1)] [(g2, (Q.tab Q.t13)), (g29, [.int .i64 17]), (g1, (Q.tab (fun _ => Q.sh0)))] (List.Sublist.cons_cons _ (List.Sublist.cons_cons _ (List.Sublist.cons _ (List.Sublist.refl _)))) ?_
 refine E.C.seq ?_
 refine E.sr ?_
 refine E.op (.int .i64 18) ?_
 refine E.op (.bool true) ?_
 refine E.To.code ?_
 refine E.C.condT (by kernel_rfl) (by kernel_rfl) ?_
 refine E.C.skip (E.To.code ?_)
 refine E.C.seq ?_
 refine E.C.block ?_
 refine E.C.region ?_
 refine E.op (.func (.func 95) #[] #[.pointer (some ⟨g2, 0, none⟩)]) ?_
 refine E.vl (.agg #[.bool false, .bool true, .bool true, .bool false, .int .i64 1, .int .i64 18, .int .u32 0]) (fun w h => E.run_build #[.bool false, .bool true, .bool true, .bool false, .int .i64 1, .int .i64 18, .int .u32 0] (by kernel_rfl) w) ?_
 refine E.op (.int .i64 18) ?_
 refine E.G.buildSlice [.int .i64 18] (by kernel_rfl) (by kernel_rfl) (fun g31 => ?_)
 refine A.G.call (I := Unit) (D := fun _ => True) (V := fun _ => .tuple #[]) (q := fun _ => [A.blk g2 (Q.tab Q.t14), A.blk g31 ([.int .i64 18])]) [A.blk g29 ([.int .i64 17]), A.blk g1 (Q.tab (fun _ => Q.sh0))] (fun _ => [(g2, (Q.tab Q.t14)), (g31, [.int .i64 18]), (g29, [.int .i64 17]), (g1, (Q.tab (fun _ => Q.sh0)))]) (fun _ => []) (Set1 (gt := g2) (go := g31) (f := Q.t13) ⟨false, true, true, false, 1, 18, 0⟩ 18 (by decide)) (by kernel_rfl) (A.pn [1, 0, 2, 3]) (fun _ => A.pm [0, 1, 2, 3] (by kernel_rfl) (by kernel_rfl)) (fun w _ => by kernel_rfl) (by kernel_rfl) (fun _ hd32 => ?_)
 refine E.P.nb (E.To.code ?_)
 refine E.C.region ?_
 refine E.op (.int .i64 18) ?_
 refine E.op (.int .i64 19) ?_
 refine E.op (.int .i64 19) ?_
 refine E.To.rounds 9 ?_
 refine E.wk [(0, .pointer (some ⟨g1, 0, none⟩)), (1, .pointer (some ⟨g2, 0, none⟩)), (2, .func (.func 95) #[] #[.pointer (some ⟨g2, 0, none⟩)]), (4, .int .i64 19), (15, .int .i64 18), (16, .bool true), (17, .int .i64 18), (18, .int .i64 19), (19, .func (.func 95) #[] #[.pointer (some ⟨g2, 0, none⟩)]), (20, .agg #[.bool false, .bool true, .bool true, .bool false, .int .i64 1, .int .i64 18, .int .u32 0]), (21, .int .i64 18), (22, .slice (some ⟨g31, 0, none⟩) 1 1)] [(g2, (Q.tab Q.t14)), (g31, [.int .i64 18]), (g1, (Q.tab (fun _ => Q.sh0)))] (List.Sublist.cons_cons _ (List.Sublist.cons_cons _ (List.Sublist.cons _ (List.Sublist.refl _)))) ?_
 refine E.C.seq ?_
 refine E.sr ?_
 refine E.op (.int .i64 19) ?_
 refine E.op (.bool true) ?_
 refine E.To.code ?_
 refine E.C.condT (by kernel_rfl) (by kernel_rfl) ?_
 refine E.C.skip (E.To.code ?_)
 refine E.C.seq ?_
 refine E.C.block ?_
 refine E.C.region ?_
 refine E.op (.func (.func 95) #[] #[.pointer (some ⟨g2, 0, none⟩)]) ?_
 refine E.vl (.agg #[.bool false, .bool true, .bool true, .bool false, .int .i64 1, .int .i64 18, .int .u32 0]) (fun w h => E.run_build #[.bool false, .bool true, .bool true, .bool false, .int .i64 1, .int .i64 18, .int .u32 0] (by kernel_rfl) w) ?_
 refine E.op (.int .i64 19) ?_
 refine E.G.buildSlice [.int .i64 19] (by kernel_rfl) (by kernel_rfl) (fun g33 => ?_)
 refine A.G.call (I := Unit) (D := fun _ => True) (V := fun _ => .tuple #[]) (q := fun _ => [A.blk g2 (Q.tab Q.t15), A.blk g33 ([.int .i64 19])]) [A.blk g31 ([.int .i64 18]), A.blk g1 (Q.tab (fun _ => Q.sh0))] (fun _ => [(g2, (Q.tab Q.t15)), (g33, [.int .i64 19]), (g31, [.int .i64 18]), (g1, (Q.tab (fun _ => Q.sh0)))]) (fun _ => []) (Set1 (gt := g2) (go := g33) (f := Q.t14) ⟨false, true, true, false, 1, 18, 0⟩ 19 (by decide)) (by kernel_rfl) (A.pn [1, 0, 2, 3]) (fun _ => A.pm [0, 1, 2, 3] (by kernel_rfl) (by kernel_rfl)) (fun w _ => by kernel_rfl) (by kernel_rfl) (fun _ hd34 => ?_)
 refine E.P.nb (E.To.code ?_)
 refine E.C.region ?_
 refine E.op (.int .i64 19) ?_
 refine E.op (.int .i64 20) ?_
 refine E.op (.int .i64 20) ?_
 refine E.To.rounds 8 ?_
 refine E.wk [(0, .pointer (some ⟨g1, 0, none⟩)), (1, .pointer (some ⟨g2, 0, none⟩)), (2, .func (.func 95) #[] #[.pointer (some ⟨g2, 0, none⟩)]), (4, .int .i64 20), (15, .int .i64 19), (16, .bool true), (17, .int .i64 19), (18, .int .i64 20), (19, .func (.func 95) #[] #[.pointer (some ⟨g2, 0, none⟩)]), (20, .agg #[.bool false, .bool true, .bool true, .bool false, .int .i64 1, .int .i64 18, .int .u32 0]), (21, .int .i64 19), (22, .slice (some ⟨g33, 0, none⟩) 1 1)] [(g2, (Q.tab Q.t15)), (g33, [.int .i64 19]), (g1, (Q.tab (fun _ => Q.sh0)))] (List.Sublist.cons_cons _ (List.Sublist.cons_cons _ (List.Sublist.cons _ (List.Sublist.refl _)))) ?_
 refine E.C.seq ?_
 refine E.sr ?_
 refine E.op (.int .i64 20) ?_
 refine E.op (.bool true) ?_
 refine E.To.code ?_
 refine E.C.condT (by kernel_rfl) (by kernel_rfl) ?_
 refine E.C.skip (E.To.code ?_)
 refine E.C.seq ?_
 refine E.C.block ?_
 refine E.C.region ?_
 refine E.op (.func (.func 95) #[] #[.pointer (some ⟨g2, 0, none⟩)]) ?_
 refine E.vl (.agg #[.bool false, .bool true, .bool true, .bool false, .int .i64 1, .int .i64 18, .int .u32 0]) (fun w h => E.run_build #[.bool false, .bool true, .bool true, .bool false, .int .i64 1, .int .i64 18, .int .u32 0] (by kernel_rfl) w) ?_
 refine E.op (.int .i64 20) ?_
 refine E.G.buildSlice [.int .i64 20] (by kernel_rfl) (by kernel_rfl) (fun g35 => ?_)
 refine A.G.call (I := Unit) (D := fun _ => True) (V := fun _ => .tuple #[]) (q := fun _ => [A.blk g2 (Q.tab Q.t16), A.blk g35 ([.int .i64 20])]) [A.blk g33 ([.int .i64 19]), A.blk g1 (Q.tab (fun _ => Q.sh0))] (fun _ => [(g2, (Q.tab Q.t16)), (g35, [.int .i64 20]), (g33, [.int .i64 19]), (g1, (Q.tab (fun _ => Q.sh0)))]) (fun _ => []) (Set1 (gt := g2) (go := g35) (f := Q.t15) ⟨false, true, true, false, 1, 18, 0⟩ 20 (by decide)) (by kernel_rfl) (A.pn [1, 0, 2, 3]) (fun _ => A.pm [0, 1, 2, 3] (by kernel_rfl) (by kernel_rfl)) (fun w _ => by kernel_rfl) (by kernel_rfl) (fun _ hd36 => ?_)
 refine E.P.nb (E.To.code ?_)
 refine E.C.region ?_
 refine E.op (.int .i64 20) ?_
 refine E.op (.int .i64 21) ?_
 refine E.op (.int .i64 21) ?_
 refine E.To.rounds 7 ?_
 refine E.wk [(0, .pointer (some ⟨g1, 0, none⟩)), (1, .pointer (some ⟨g2, 0, none⟩)), (2, .func (.func 95) #[] #[.pointer (some ⟨g2, 0, none⟩)]), (4, .int .i64 21), (15, .int .i64 20), (16, .bool true), (17, .int .i64 20), (18, .int .i64 21), (19, .func (.func 95) #[] #[.pointer (some ⟨g2, 0, none⟩)]), (20, .agg #[.bool false, .bool true, .bool true, .bool false, .int .i64 1, .int .i64 18, .int .u32 0]), (21, .int .i64 20), (22, .slice (some ⟨g35, 0, none⟩) 1 1)] [(g2, (Q.tab Q.t16)), (g35, [.int .i64 20]), (g1, (Q.tab (fun _ => Q.sh0)))] (List.Sublist.cons_cons _ (List.Sublist.cons_cons _ (List.Sublist.cons _ (List.Sublist.refl _)))) ?_
 refine E.C.seq ?_
 refine E.sr ?_
 refine E.op (.int .i64 21) ?_
 refine E.op (.bool true) ?_
 refine E.To.code ?_
 refine E.C.condT (by kernel_rfl) (by kernel_rfl) ?_
 refine E.C.skip (E.To.code ?_)
 refine E.C.seq ?_
 refine E.C.block ?_
 refine E.C.region ?_
 refine E.op (.func (.func 95) #[] #[.pointer (some ⟨g2, 0, none⟩)]) ?_
 refine E.vl (.agg #[.bool false, .bool true, .bool true, .bool false, .int .i64 1, .int .i64 18, .int .u32 0]) (fun w h => E.run_build #[.bool false, .bool true, .bool true, .bool false, .int .i64 1, .int .i64 18, .int .u32 0] (by kernel_rfl) w) ?_
 refine E.op (.int .i64 21) ?_
 refine E.G.buildSlice [.int .i64 21] (by kernel_rfl) (by kernel_rfl) (fun g37 => ?_)
 refine A.G.call (I := Unit) (D := fun _ => True) (V := fun _ => .tuple #[]) (q := fun _ => [A.blk g2 (Q.tab Q.t17), A.blk g37 ([.int .i64 21])]) [A.blk g35 ([.int .i64 20]), A.blk g1 (Q.tab (fun _ => Q.sh0))] (fun _ => [(g2, (Q.tab Q.t17)), (g37, [.int .i64 21]), (g35, [.int .i64 20]), (g1, (Q.tab (fun _ => Q.sh0)))]) (fun _ => []) (Set1 (gt := g2) (go := g37) (f := Q.t16) ⟨false, true, true, false, 1, 18, 0⟩ 21 (by decide)) (by kernel_rfl) (A.pn [1, 0, 2, 3]) (fun _ => A.pm [0, 1, 2, 3] (by kernel_rfl) (by kernel_rfl)) (fun w _ => by kernel_rfl) (by kernel_rfl) (fun _ hd38 => ?_)
 refine E.P.nb (E.To.code ?_)
 refine E.C.region ?_
 refine E.op (.int .i64 21) ?_
 refine E.op (.int .i64 22) ?_
 refine E.op (.int .i64 22) ?_
 refine E.To.rounds 6 ?_
 refine E.wk [(0, .pointer (some ⟨g1, 0, none⟩)), (1, .pointer (some ⟨g2, 0, none⟩)), (2, .func (.func 95) #[] #[.pointer (some ⟨g2, 0, none⟩)]), (4, .int .i64 22), (15, .int .i64 21), (16, .bool true), (17, .int .i64 21), (18, .int .i64 22), (19, .func (.func 95) #[] #[.pointer (some ⟨g2, 0, none⟩)]), (20, .agg #[.bool false, .bool true, .bool true, .bool false, .int .i64 1, .int .i64 18, .int .u32 0]), (21, .int .i64 21), (22, .slice (some ⟨g37, 0, none⟩) 1 1)] [(g2, (Q.tab Q.t17)), (g37, [.int .i64 21]), (g1, (Q.tab (fun _ => Q.sh0)))] (List.Sublist.cons_cons _ (List.Sublist.cons_cons _ (List.Sublist.cons _ (List.Sublist.refl _)))) ?_
 refine E.C.seq ?_
 refine E.sr ?_
 refine E.op (.int .i64 22) ?_
 refine E.op (.bool true) ?_
 refine E.To.code ?_
 refine E.C.condT (by kernel_rfl) (by kernel_rfl) ?_
 refine E.C.skip (E.To.code ?_)
 refine E.C.seq ?_
 refine E.C.block ?_
 refine E.C.region ?_
 refine E.op (.func (.func 95) #[] #[.pointer (some ⟨g2, 0, none⟩)]) ?_
 refine E.vl (.agg #[.bool false, .bool true, .bool true, .bool false, .int .i64 1, .int .i64 18, .int .u32 0]) (fun w h => E.run_build #[.bool false, .bool true, .bool true, .bool false, .int .i64 1, .int .i64 18, .int .u32 0] (by kernel_rfl) w) ?_
 refine E.op (.int .i64 22) ?_
 refine E.G.buildSlice [.int .i64 22] (by kernel_rfl) (by kernel_rfl) (fun g39 => ?_)
 refine A.G.call (I := Unit) (D := fun _ => True) (V := fun _ => .tuple #[]) (q := fun _ => [A.blk g2 (Q.tab Q.t18), A.blk g39 ([.int .i64 22])]) [A.blk g37 ([.int .i64 21]), A.blk g1 (Q.tab (fun _ => Q.sh0))] (fun _ => [(g2, (Q.tab Q.t18)), (g39, [.int .i64 22]), (g37, [.int .i64 21]), (g1, (Q.tab (fun _ => Q.sh0)))]) (fun _ => []) (Set1 (gt := g2) (go := g39) (f := Q.t17) ⟨false, true, true, false, 1, 18, 0⟩ 22 (by decide)) (by kernel_rfl) (A.pn [1, 0, 2, 3]) (fun _ => A.pm [0, 1, 2, 3] (by kernel_rfl) (by kernel_rfl)) (fun w _ => by kernel_rfl) (by kernel_rfl) (fun _ hd40 => ?_)
 refine E.P.nb (E.To.code ?_)
 refine E.C.region ?_
 refine E.op (.int .i64 22) ?_
 refine E.op (.int .i64 23) ?_
 refine E.op (.int .i64 23) ?_
 refine E.To.rounds 5 ?_
 refine E.wk [(0, .pointer (some ⟨g1, 0, none⟩)), (1, .pointer (some ⟨g2, 0, none⟩)), (2, .func (.func 95) #[] #[.pointer (some ⟨g2, 0, none⟩)]), (4, .int .i64 23), (15, .int .i64 22), (16, .bool true), (17, .int .i64 22), (18, .int .i64 23), (19, .func (.func 95) #[] #[.pointer (some ⟨g2, 0, none⟩)]), (20, .agg #[.bool false, .bool true, .bool true, .bool false, .int .i64 1, .int .i64 18, .int .u32 0]), (21, .int .i64 22), (22, .slice (some ⟨g39, 0, none⟩) 1 1)] [(g2, (Q.tab Q.t18)), (g39, [.int .i64 22]), (g1, (Q.tab (fun _ => Q.sh0)))] (List.Sublist.cons_cons _ (List.Sublist.cons_cons _ (List.Sublist.cons _ (List.Sublist.refl _)))) ?_
 refine E.C.seq ?_
 refine E.sr ?_
 refine E.op (.int .i64 23) ?_
 refine E.op (.bool true) ?_
 refine E.To.code ?_
 refine E.C.condT (by kernel_rfl) (by kernel_rfl) ?_
 refine E.C.skip (E.To.code ?_)
 refine E.C.seq ?_
 refine E.C.block ?_
 refine E.C.region ?_
 refine E.op (.func (.func 95) #[] #[.pointer (some ⟨g2, 0, none⟩)]) ?_
 refine E.vl (.agg #[.bool false, .bool true, .bool true, .bool false, .int .i64 1, .int .i64 18, .int .u32 0]) (fun w h => E.run_build #[.bool false, .bool true, .bool true, .bool false, .int .i64 1, .int .i64 18, .int .u32 0] (by kernel_rfl) w) ?_
 refine E.op (.int .i64 23) ?_
 refine E.G.buildSlice [.int .i64 23] (by kernel_rfl) (by kernel_rfl) (fun g41 => ?_)
 refine A.G.call (I := Unit) (D := fun _ => True) (V := fun _ => .tuple #[]) (q := fun _ => [A.blk g2 (Q.tab Q.t19), A.blk g41 ([.int .i64 23])]) [A.blk g39 ([.int .i64 22]), A.blk g1 (Q.tab (fun _ => Q.sh0))] (fun _ => [(g2, (Q.tab Q.t19)), (g41, [.int .i64 23]), (g39, [.int .i64 22]), (g1, (Q.tab (fun _ => Q.sh0)))]) (fun _ => []) (Set1 (gt := g2) (go := g41) (f := Q.t18) ⟨false, true, true, false, 1, 18, 0⟩ 23 (by decide)) (by kernel_rfl) (A.pn [1, 0, 2, 3]) (fun _ => A.pm [0, 1, 2, 3] (by kernel_rfl) (by kernel_rfl)) (fun w _ => by kernel_rfl) (by kernel_rfl) (fun _ hd42 => ?_)
 refine E.P.nb (E.To.code ?_)
 refine E.C.region ?_
 refine E.op (.int .i64 23) ?_
 refine E.op (.int .i64 24) ?_
 refine E.op (.int .i64 24) ?_
 refine E.To.rounds 4 ?_
 refine E.wk [(0, .pointer (some ⟨g1, 0, none⟩)), (1, .pointer (some ⟨g2, 0, none⟩)), (2, .func (.func 95) #[] #[.pointer (some ⟨g2, 0, none⟩)]), (4, .int .i64 24), (15, .int .i64 23), (16, .bool true), (17, .int .i64 23), (18, .int .i64 24), (19, .func (.func 95) #[] #[.pointer (some ⟨g2, 0, none⟩)]), (20, .agg #[.bool false, .bool true, .bool true, .bool false, .int .i64 1, .int .i64 18, .int .u32 0]), (21, .int .i64 23), (22, .slice (some ⟨g41, 0, none⟩) 1 1)] [(g2, (Q.tab Q.t19)), (g41, [.int .i64 23]), (g1, (Q.tab (fun _ => Q.sh0)))] (List.Sublist.cons_cons _ (List.Sublist.cons_cons _ (List.Sublist.cons _ (List.Sublist.refl _)))) ?_
 refine E.C.seq ?_
 refine E.sr ?_
 refine E.op (.int .i64 24) ?_
 refine E.op (.bool true) ?_
 refine E.To.code ?_
 refine E.C.condT (by kernel_rfl) (by kernel_rfl) ?_
 refine E.C.skip (E.To.code ?_)
 refine E.C.seq ?_
 refine E.C.block ?_
 refine E.C.region ?_
 refine E.op (.func (.func 95) #[] #[.pointer (some ⟨g2, 0, none⟩)]) ?_
 refine E.vl (.agg #[.bool false, .bool true, .bool true, .bool false, .int .i64 1, .int .i64 18, .int .u32 0]) (fun w h => E.run_build #[.bool false, .bool true, .bool true, .bool false, .int .i64 1, .int .i64 18, .int .u32 0] (by kernel_rfl) w) ?_
 refine E.op (.int .i64 24) ?_
 refine E.G.buildSlice [.int .i64 24] (by kernel_rfl) (by kernel_rfl) (fun g43 => ?_)
 refine A.G.call (I := Unit) (D := fun _ => True) (V := fun _ => .tuple #[]) (q := fun _ => [A.blk g2 (Q.tab Q.t20), A.blk g43 ([.int .i64 24])]) [A.blk g41 ([.int .i64 23]), A.blk g1 (Q.tab (fun _ => Q.sh0))] (fun _ => [(g2, (Q.tab Q.t20)), (g43, [.int .i64 24]), (g41, [.int .i64 23]), (g1, (Q.tab (fun _ => Q.sh0)))]) (fun _ => []) (Set1 (gt := g2) (go := g43) (f := Q.t19) ⟨false, true, true, false, 1, 18, 0⟩ 24 (by decide)) (by kernel_rfl) (A.pn [1, 0, 2, 3]) (fun _ => A.pm [0, 1, 2, 3] (by kernel_rfl) (by kernel_rfl)) (fun w _ => by kernel_rfl) (by kernel_rfl) (fun _ hd44 => ?_)
 refine E.P.nb (E.To.code ?_)
 refine E.C.region ?_
 refine E.op (.int .i64 24) ?_
 refine E.op (.int .i64 25) ?_
 refine E.op (.int .i64 25) ?_
 refine E.To.rounds 3 ?_
 refine E.wk [(0, .pointer (some ⟨g1, 0, none⟩)), (1, .pointer (some ⟨g2, 0, none⟩)), (2, .func (.func 95) #[] #[.pointer (some ⟨g2, 0, none⟩)]), (4, .int .i64 25), (15, .int .i64 24), (16, .bool true), (17, .int .i64 24), (18, .int .i64 25), (19, .func (.func 95) #[] #[.pointer (some ⟨g2, 0, none⟩)]), (20, .agg #[.bool false, .bool true, .bool true, .bool false, .int .i64 1, .int .i64 18, .int .u32 0]), (21, .int .i64 24), (22, .slice (some ⟨g43, 0, none⟩) 1 1)] [(g2, (Q.tab Q.t20)), (g43, [.int .i64 24]), (g1, (Q.tab (fun _ => Q.sh0)))] (List.Sublist.cons_cons _ (List.Sublist.cons_cons _ (List.Sublist.cons _ (List.Sublist.refl _)))) ?_
 refine E.C.seq ?_
 refine E.sr ?_
 refine E.op (.int .i64 25) ?_
 refine E.op (.bool true) ?_
 refine E.To.code ?_
 refine E.C.condT (by kernel_rfl) (by kernel_rfl) ?_
 refine E.C.skip (E.To.code ?_)
 refine E.C.seq ?_
 refine E.C.block ?_
 refine E.C.region ?_
 refine E.op (.func (.func 95) #[] #[.pointer (some ⟨g2, 0, none⟩)]) ?_
 refine E.vl (.agg #[.bool false, .bool true, .bool true, .bool false, .int .i64 1, .int .i64 18, .int .u32 0]) (fun w h => E.run_build #[.bool false, .bool true, .bool true, .bool false, .int .i64 1, .int .i64 18, .int .u32 0] (by kernel_rfl) w) ?_
 refine E.op (.int .i64 25) ?_
 refine E.G.buildSlice [.int .i64 25] (by kernel_rfl) (by kernel_rfl) (fun g45 => ?_)
 refine A.G.call (I := Unit) (D := fun _ => True) (V := fun _ => .tuple #[]) (q := fun _ => [A.blk g2 (Q.tab Q.t21), A.blk g45 ([.int .i64 25])]) [A.blk g43 ([.int .i64 24]), A.blk g1 (Q.tab (fun _ => Q.sh0))] (fun _ => [(g2, (Q.tab Q.t21)), (g45, [.int .i64 25]), (g43, [.int .i64 24]), (g1, (Q.tab (fun _ => Q.sh0)))]) (fun _ => []) (Set1 (gt := g2) (go := g45) (f := Q.t20) ⟨false, true, true, false, 1, 18, 0⟩ 25 (by decide)) (by kernel_rfl) (A.pn [1, 0, 2, 3]) (fun _ => A.pm [0, 1, 2, 3] (by kernel_rfl) (by kernel_rfl)) (fun w _ => by kernel_rfl) (by kernel_rfl) (fun _ hd46 => ?_)
 refine E.P.nb (E.To.code ?_)
 refine E.C.region ?_
 refine E.op (.int .i64 25) ?_
 refine E.op (.int .i64 26) ?_
 refine E.op (.int .i64 26) ?_
 refine E.To.rounds 2 ?_
 refine E.wk [(0, .pointer (some ⟨g1, 0, none⟩)), (1, .pointer (some ⟨g2, 0, none⟩)), (2, .func (.func 95) #[] #[.pointer (some ⟨g2, 0, none⟩)]), (4, .int .i64 26), (15, .int .i64 25), (16, .bool true), (17, .int .i64 25), (18, .int .i64 26), (19, .func (.func 95) #[] #[.pointer (some ⟨g2, 0, none⟩)]), (20, .agg #[.bool false, .bool true, .bool true, .bool false, .int .i64 1, .int .i64 18, .int .u32 0]), (21, .int .i64 25), (22, .slice (some ⟨g45, 0, none⟩) 1 1)] [(g2, (Q.tab Q.t21)), (g45, [.int .i64 25]), (g1, (Q.tab (fun _ => Q.sh0)))] (List.Sublist.cons_cons _ (List.Sublist.cons_cons _ (List.Sublist.cons _ (List.Sublist.refl _)))) ?_
 refine E.C.seq ?_
 refine E.sr ?_
 refine E.op (.int .i64 26) ?_
 refine E.op (.bool true) ?_
 refine E.To.code ?_
 refine E.C.condT (by kernel_rfl) (by kernel_rfl) ?_
 refine E.C.skip (E.To.code ?_)
 refine E.C.seq ?_
 refine E.C.block ?_
 refine E.C.region ?_
 refine E.op (.func (.func 95) #[] #[.pointer (some ⟨g2, 0, none⟩)]) ?_
 refine E.vl (.agg #[.bool false, .bool true, .bool true, .bool false, .int .i64 1, .int .i64 18, .int .u32 0]) (fun w h => E.run_build #[.bool false, .bool true, .bool true, .bool false, .int .i64 1, .int .i64 18, .int .u32 0] (by kernel_rfl) w) ?_
 refine E.op (.int .i64 26) ?_
 refine E.G.buildSlice [.int .i64 26] (by kernel_rfl) (by kernel_rfl) (fun g47 => ?_)
 refine A.G.call (I := Unit) (D := fun _ => True) (V := fun _ => .tuple #[]) (q := fun _ => [A.blk g2 (Q.tab Q.t22), A.blk g47 ([.int .i64 26])]) [A.blk g45 ([.int .i64 25]), A.blk g1 (Q.tab (fun _ => Q.sh0))] (fun _ => [(g2, (Q.tab Q.t22)), (g47, [.int .i64 26]), (g45, [.int .i64 25]), (g1, (Q.tab (fun _ => Q.sh0)))]) (fun _ => []) (Set1 (gt := g2) (go := g47) (f := Q.t21) ⟨false, true, true, false, 1, 18, 0⟩ 26 (by decide)) (by kernel_rfl) (A.pn [1, 0, 2, 3]) (fun _ => A.pm [0, 1, 2, 3] (by kernel_rfl) (by kernel_rfl)) (fun w _ => by kernel_rfl) (by kernel_rfl) (fun _ hd48 => ?_)
 refine E.P.nb (E.To.code ?_)
 refine E.C.region ?_
 refine E.op (.int .i64 26) ?_
 refine E.op (.int .i64 27) ?_
 refine E.op (.int .i64 27) ?_
 refine E.To.rounds 1 ?_
 refine E.wk [(0, .pointer (some ⟨g1, 0, none⟩)), (1, .pointer (some ⟨g2, 0, none⟩)), (2, .func (.func 95) #[] #[.pointer (some ⟨g2, 0, none⟩)]), (4, .int .i64 27), (15, .int .i64 26), (16, .bool true), (17, .int .i64 26), (18, .int .i64 27), (19, .func (.func 95) #[] #[.pointer (some ⟨g2, 0, none⟩)]), (20, .agg #[.bool false, .bool true, .bool true, .bool false, .int .i64 1, .int .i64 18, .int .u32 0]), (21, .int .i64 26), (22, .slice (some ⟨g47, 0, none⟩) 1 1)] [(g2, (Q.tab Q.t22)), (g47, [.int .i64 26]), (g1, (Q.tab (fun _ => Q.sh0)))] (List.Sublist.cons_cons _ (List.Sublist.cons_cons _ (List.Sublist.cons _ (List.Sublist.refl _)))) ?_
 refine E.C.seq ?_
 refine E.sr ?_
 refine E.op (.int .i64 27) ?_
 refine E.op (.bool true) ?_
 refine E.To.code ?_
 refine E.C.condT (by kernel_rfl) (by kernel_rfl) ?_
 refine E.C.skip (E.To.code ?_)
 refine E.C.seq ?_
 refine E.C.block ?_
 refine E.C.region ?_
 refine E.op (.func (.func 95) #[] #[.pointer (some ⟨g2, 0, none⟩)]) ?_
 refine E.vl (.agg #[.bool false, .bool true, .bool true, .bool false, .int .i64 1, .int .i64 18, .int .u32 0]) (fun w h => E.run_build #[.bool false, .bool true, .bool true, .bool false, .int .i64 1, .int .i64 18, .int .u32 0] (by kernel_rfl) w) ?_
 refine E.op (.int .i64 27) ?_
 refine E.G.buildSlice [.int .i64 27] (by kernel_rfl) (by kernel_rfl) (fun g49 => ?_)
 refine A.G.call (I := Unit) (D := fun _ => True) (V := fun _ => .tuple #[]) (q := fun _ => [A.blk g2 (Q.tab Q.t23), A.blk g49 ([.int .i64 27])]) [A.blk g47 ([.int .i64 26]), A.blk g1 (Q.tab (fun _ => Q.sh0))] (fun _ => [(g2, (Q.tab Q.t23)), (g49, [.int .i64 27]), (g47, [.int .i64 26]), (g1, (Q.tab (fun _ => Q.sh0)))]) (fun _ => []) (Set1 (gt := g2) (go := g49) (f := Q.t22) ⟨false, true, true, false, 1, 18, 0⟩ 27 (by decide)) (by kernel_rfl) (A.pn [1, 0, 2, 3]) (fun _ => A.pm [0, 1, 2, 3] (by kernel_rfl) (by kernel_rfl)) (fun w _ => by kernel_rfl) (by kernel_rfl) (fun _ hd50 => ?_)
 refine E.P.nb (E.To.code ?_)
 refine E.C.region ?_
 refine E.op (.int .i64 27) ?_
 refine E.op (.int .i64 28) ?_
 refine E.op (.int .i64 28) ?_
 refine E.To.rounds 0 ?_
 refine E.wk [(0, .pointer (some ⟨g1, 0, none⟩)), (1, .pointer (some ⟨g2, 0, none⟩)), (2, .func (.func 95) #[] #[.pointer (some ⟨g2, 0, none⟩)]), (4, .int .i64 28), (15, .int .i64 27), (16, .bool true), (17, .int .i64 27), (18, .int .i64 28), (19, .func (.func 95) #[] #[.pointer (some ⟨g2, 0, none⟩)]), (20, .agg #[.bool false, .bool true, .bool true, .bool false, .int .i64 1, .int .i64 18, .int .u32 0]), (21, .int .i64 27), (22, .slice (some ⟨g49, 0, none⟩) 1 1)] [(g2, (Q.tab Q.t23)), (g49, [.int .i64 27]), (g1, (Q.tab (fun _ => Q.sh0)))] (List.Sublist.cons_cons _ (List.Sublist.cons_cons _ (List.Sublist.cons _ (List.Sublist.refl _)))) ?_
 refine E.C.seq ?_
 refine E.sr ?_
 refine E.op (.int .i64 28) ?_
 refine E.op (.bool false) ?_
 refine E.To.code ?_
 refine E.C.condF (by kernel_rfl) (by kernel_rfl) ?_
 refine E.C.exit (E.P.et (E.P.et (E.P.eh (E.To.code ?_))))
 refine E.wk [(0, .pointer (some ⟨g1, 0, none⟩)), (1, .pointer (some ⟨g2, 0, none⟩)), (2, .func (.func 95) #[] #[.pointer (some ⟨g2, 0, none⟩)])] [(g2, (Q.tab Q.t23)), (g1, (Q.tab (fun _ => Q.sh0)))] (List.Sublist.cons_cons _ (List.Sublist.cons _ (List.Sublist.refl _))) ?_
 refine E.sr ?_
 refine E.op (.func (.func 95) #[] #[.pointer (some ⟨g2, 0, none⟩)]) ?_
 refine E.vl (.agg #[.bool false, .bool true, .bool true, .bool false, .int .i64 2, .int .i64 18, .int .u32 0]) (fun w h => E.run_build #[.bool false, .bool true, .bool true, .bool false, .int .i64 2, .int .i64 18, .int .u32 0] (by kernel_rfl) w) ?_
 refine E.G.buildSlice [.int .i64 17, .int .i64 18, .int .i64 19] (by kernel_rfl) (by kernel_rfl) (fun g51 => ?_)
 refine A.G.call (I := Unit) (D := fun _ => True) (V := fun _ => .tuple #[]) (q := fun _ => [A.blk g2 (Q.tab Q.t24), A.blk g51 ([.int .i64 17, .int .i64 18, .int .i64 19])]) [A.blk g1 (Q.tab (fun _ => Q.sh0))] (fun _ => [(g2, (Q.tab Q.t24)), (g51, [.int .i64 17, .int .i64 18, .int .i64 19]), (g1, (Q.tab (fun _ => Q.sh0)))]) (fun _ => []) (Set3 (gt := g2) (go := g51) (f := Q.t23) ⟨false, true, true, false, 2, 18, 0⟩ 17 18 19 (by decide) (by decide) (by decide)) (by kernel_rfl) (A.pn [1, 0, 2]) (fun _ => A.pm [0, 1, 2] (by kernel_rfl) (by kernel_rfl)) (fun w _ => by kernel_rfl) (by kernel_rfl) (fun _ hd52 => ?_)
 refine E.tr ?_
 refine E.op (.func (.func 95) #[] #[.pointer (some ⟨g2, 0, none⟩)]) ?_
 refine E.vl (.agg #[.bool false, .bool true, .bool true, .bool false, .int .i64 1, .int .i64 18, .int .u32 0]) (fun w h => E.run_build #[.bool false, .bool true, .bool true, .bool false, .int .i64 1, .int .i64 18, .int .u32 0] (by kernel_rfl) w) ?_
 refine E.G.buildSlice [.int .i64 32, .int .i64 33, .int .i64 34, .int .i64 35, .int .i64 36, .int .i64 37] (by kernel_rfl) (by kernel_rfl) (fun g53 => ?_)
 refine A.G.call (I := Unit) (D := fun _ => True) (V := fun _ => .tuple #[]) (q := fun _ => [A.blk g2 (Q.tab Q.t25), A.blk g53 ([.int .i64 32, .int .i64 33, .int .i64 34, .int .i64 35, .int .i64 36, .int .i64 37])]) [A.blk g51 ([.int .i64 17, .int .i64 18, .int .i64 19]), A.blk g1 (Q.tab (fun _ => Q.sh0))] (fun _ => [(g2, (Q.tab Q.t25)), (g53, [.int .i64 32, .int .i64 33, .int .i64 34, .int .i64 35, .int .i64 36, .int .i64 37]), (g51, [.int .i64 17, .int .i64 18, .int .i64 19]), (g1, (Q.tab (fun _ => Q.sh0)))]) (fun _ => []) (Set6 (gt := g2) (go := g53) (f := Q.t24) ⟨false, true, true, false, 1, 18, 0⟩ 32 33 34 35 36 37 (by decide) (by decide) (by decide) (by decide) (by decide) (by decide)) (by kernel_rfl) (A.pn [1, 0, 2, 3]) (fun _ => A.pm [0, 1, 2, 3] (by kernel_rfl) (by kernel_rfl)) (fun w _ => by kernel_rfl) (by kernel_rfl) (fun _ hd54 => ?_)
 refine E.To.code ?_
 refine E.wk [(0, .pointer (some ⟨g1, 0, none⟩)), (1, .pointer (some ⟨g2, 0, none⟩)), (2, .func (.func 95) #[] #[.pointer (some ⟨g2, 0, none⟩)])] [(g2, (Q.tab Q.t25)), (g1, (Q.tab (fun _ => Q.sh0)))] (List.Sublist.cons_cons _ (List.Sublist.cons _ (List.Sublist.cons _ (List.Sublist.refl _)))) ?_
 refine E.sr ?_
 refine E.op (.func (.func 95) #[] #[.pointer (some ⟨g2, 0, none⟩)]) ?_
 refine E.vl (.agg #[.bool false, .bool true, .bool false, .bool false, .int .i64 1, .int .i64 22, .int .u32 0]) (fun w h => E.run_build #[.bool false, .bool true, .bool false, .bool false, .int .i64 1, .int .i64 22, .int .u32 0] (by kernel_rfl) w) ?_
 refine E.G.buildSlice [.int .i64 40] (by kernel_rfl) (by kernel_rfl) (fun g55 => ?_)
 refine A.G.call (I := Unit) (D := fun _ => True) (V := fun _ => .tuple #[]) (q := fun _ => [A.blk g2 (Q.tab Q.t26), A.blk g55 ([.int .i64 40])]) [A.blk g1 (Q.tab (fun _ => Q.sh0))] (fun _ => [(g2, (Q.tab Q.t26)), (g55, [.int .i64 40]), (g1, (Q.tab (fun _ => Q.sh0)))]) (fun _ => []) (Set1 (gt := g2) (go := g55) (f := Q.t25) ⟨false, true, false, false, 1, 22, 0⟩ 40 (by decide)) (by kernel_rfl) (A.pn [1, 0, 2]) (fun _ => A.pm [0, 1, 2] (by kernel_rfl) (by kernel_rfl)) (fun w _ => by kernel_rfl) (by kernel_rfl) (fun _ hd56 => ?_)
 refine E.tr ?_
 refine E.op (.func (.func 95) #[] #[.pointer (some ⟨g2, 0, none⟩)]) ?_
 refine E.vl (.agg #[.bool false, .bool true, .bool false, .bool false, .int .i64 2, .int .i64 22, .int .u32 0]) (fun w h => E.run_build #[.bool false, .bool true, .bool false, .bool false, .int .i64 2, .int .i64 22, .int .u32 0] (by kernel_rfl) w) ?_
 refine E.G.buildSlice [.int .i64 41] (by kernel_rfl) (by kernel_rfl) (fun g57 => ?_)
 refine A.G.call (I := Unit) (D := fun _ => True) (V := fun _ => .tuple #[]) (q := fun _ => [A.blk g2 (Q.tab Q.t27), A.blk g57 ([.int .i64 41])]) [A.blk g55 ([.int .i64 40]), A.blk g1 (Q.tab (fun _ => Q.sh0))] (fun _ => [(g2, (Q.tab Q.t27)), (g57, [.int .i64 41]), (g55, [.int .i64 40]), (g1, (Q.tab (fun _ => Q.sh0)))]) (fun _ => []) (Set1 (gt := g2) (go := g57) (f := Q.t26) ⟨false, true, false, false, 2, 22, 0⟩ 41 (by decide)) (by kernel_rfl) (A.pn [1, 0, 2, 3]) (fun _ => A.pm [0, 1, 2, 3] (by kernel_rfl) (by kernel_rfl)) (fun w _ => by kernel_rfl) (by kernel_rfl) (fun _ hd58 => ?_)
 refine E.To.code ?_
 refine E.wk [(0, .pointer (some ⟨g1, 0, none⟩)), (1, .pointer (some ⟨g2, 0, none⟩)), (2, .func (.func 95) #[] #[.pointer (some ⟨g2, 0, none⟩)])] [(g2, (Q.tab Q.t27)), (g1, (Q.tab (fun _ => Q.sh0)))] (List.Sublist.cons_cons _ (List.Sublist.cons _ (List.Sublist.cons _ (List.Sublist.refl _)))) ?_
 refine E.sr ?_
 refine E.op (.func (.func 95) #[] #[.pointer (some ⟨g2, 0, none⟩)]) ?_
 refine E.vl (.agg #[.bool false, .bool false, .bool false, .bool false, .int .i64 2, .int .i64 18, .int .u32 0]) (fun w h => E.run_build #[.bool false, .bool false, .bool false, .bool false, .int .i64 2, .int .i64 18, .int .u32 0] (by kernel_rfl) w) ?_
 refine E.G.buildSlice [.int .i64 48] (by kernel_rfl) (by kernel_rfl) (fun g59 => ?_)
 refine A.G.call (I := Unit) (D := fun _ => True) (V := fun _ => .tuple #[]) (q := fun _ => [A.blk g2 (Q.tab Q.t28), A.blk g59 ([.int .i64 48])]) [A.blk g1 (Q.tab (fun _ => Q.sh0))] (fun _ => [(g2, (Q.tab Q.t28)), (g59, [.int .i64 48]), (g1, (Q.tab (fun _ => Q.sh0)))]) (fun _ => []) (Set1 (gt := g2) (go := g59) (f := Q.t27) ⟨false, false, false, false, 2, 18, 0⟩ 48 (by decide)) (by kernel_rfl) (A.pn [1, 0, 2]) (fun _ => A.pm [0, 1, 2] (by kernel_rfl) (by kernel_rfl)) (fun w _ => by kernel_rfl) (by kernel_rfl) (fun _ hd60 => ?_)
 refine E.tr ?_
 refine E.op (.func (.func 95) #[] #[.pointer (some ⟨g2, 0, none⟩)]) ?_
 refine E.vl (.agg #[.bool false, .bool false, .bool false, .bool false, .int .i64 0, .int .i64 0, .int .u32 0]) (fun w h => E.run_build #[.bool false, .bool false, .bool false, .bool false, .int .i64 0, .int .i64 0, .int .u32 0] (by kernel_rfl) w) ?_
 refine E.G.buildSlice [.int .i64 49, .int .i64 50, .int .i64 51] (by kernel_rfl) (by kernel_rfl) (fun g61 => ?_)
 refine A.G.call (I := Unit) (D := fun _ => True) (V := fun _ => .tuple #[]) (q := fun _ => [A.blk g2 (Q.tab Q.t29), A.blk g61 ([.int .i64 49, .int .i64 50, .int .i64 51])]) [A.blk g59 ([.int .i64 48]), A.blk g1 (Q.tab (fun _ => Q.sh0))] (fun _ => [(g2, (Q.tab Q.t29)), (g61, [.int .i64 49, .int .i64 50, .int .i64 51]), (g59, [.int .i64 48]), (g1, (Q.tab (fun _ => Q.sh0)))]) (fun _ => []) (Set3 (gt := g2) (go := g61) (f := Q.t28) ⟨false, false, false, false, 0, 0, 0⟩ 49 50 51 (by decide) (by decide) (by decide)) (by kernel_rfl) (A.pn [1, 0, 2, 3]) (fun _ => A.pm [0, 1, 2, 3] (by kernel_rfl) (by kernel_rfl)) (fun w _ => by kernel_rfl) (by kernel_rfl) (fun _ hd62 => ?_)
 refine E.To.code ?_
 refine E.wk [(0, .pointer (some ⟨g1, 0, none⟩)), (1, .pointer (some ⟨g2, 0, none⟩)), (2, .func (.func 95) #[] #[.pointer (some ⟨g2, 0, none⟩)])] [(g2, (Q.tab Q.t29)), (g1, (Q.tab (fun _ => Q.sh0)))] (List.Sublist.cons_cons _ (List.Sublist.cons _ (List.Sublist.cons _ (List.Sublist.refl _)))) ?_
 refine E.sr ?_
 refine E.op (.func (.func 95) #[] #[.pointer (some ⟨g2, 0, none⟩)]) ?_
 refine E.vl (.agg #[.bool false, .bool false, .bool true, .bool false, .int .i64 0, .int .i64 0, .int .u32 0]) (fun w h => E.run_build #[.bool false, .bool false, .bool true, .bool false, .int .i64 0, .int .i64 0, .int .u32 0] (by kernel_rfl) w) ?_
 refine E.G.buildSlice [.int .i64 52] (by kernel_rfl) (by kernel_rfl) (fun g63 => ?_)
 refine A.G.call (I := Unit) (D := fun _ => True) (V := fun _ => .tuple #[]) (q := fun _ => [A.blk g2 (Q.tab Q.t30), A.blk g63 ([.int .i64 52])]) [A.blk g1 (Q.tab (fun _ => Q.sh0))] (fun _ => [(g2, (Q.tab Q.t30)), (g63, [.int .i64 52]), (g1, (Q.tab (fun _ => Q.sh0)))]) (fun _ => []) (Set1 (gt := g2) (go := g63) (f := Q.t29) ⟨false, false, true, false, 0, 0, 0⟩ 52 (by decide)) (by kernel_rfl) (A.pn [1, 0, 2]) (fun _ => A.pm [0, 1, 2] (by kernel_rfl) (by kernel_rfl)) (fun w _ => by kernel_rfl) (by kernel_rfl) (fun _ hd64 => ?_)
 refine E.tr ?_
 refine E.op (.func (.func 95) #[] #[.pointer (some ⟨g2, 0, none⟩)]) ?_
 refine E.vl (.agg #[.bool false, .bool true, .bool false, .bool false, .int .i64 2, .int .i64 18, .int .u32 3]) (fun w h => E.run_build #[.bool false, .bool true, .bool false, .bool false, .int .i64 2, .int .i64 18, .int .u32 3] (by kernel_rfl) w) ?_
 refine E.G.buildSlice [.int .i64 53] (by kernel_rfl) (by kernel_rfl) (fun g65 => ?_)
 refine A.G.call (I := Unit) (D := fun _ => True) (V := fun _ => .tuple #[]) (q := fun _ => [A.blk g2 (Q.tab Q.t31), A.blk g65 ([.int .i64 53])]) [A.blk g63 ([.int .i64 52]), A.blk g1 (Q.tab (fun _ => Q.sh0))] (fun _ => [(g2, (Q.tab Q.t31)), (g65, [.int .i64 53]), (g63, [.int .i64 52]), (g1, (Q.tab (fun _ => Q.sh0)))]) (fun _ => []) (Set1 (gt := g2) (go := g65) (f := Q.t30) ⟨false, true, false, false, 2, 18, 3⟩ 53 (by decide)) (by kernel_rfl) (A.pn [1, 0, 2, 3]) (fun _ => A.pm [0, 1, 2, 3] (by kernel_rfl) (by kernel_rfl)) (fun w _ => by kernel_rfl) (by kernel_rfl) (fun _ hd66 => ?_)
 refine E.To.code ?_
 refine E.wk [(0, .pointer (some ⟨g1, 0, none⟩)), (1, .pointer (some ⟨g2, 0, none⟩)), (2, .func (.func 95) #[] #[.pointer (some ⟨g2, 0, none⟩)])] [(g2, (Q.tab Q.t31)), (g1, (Q.tab (fun _ => Q.sh0)))] (List.Sublist.cons_cons _ (List.Sublist.cons _ (List.Sublist.cons _ (List.Sublist.refl _)))) ?_
 refine E.sr ?_
 refine E.op (.func (.func 95) #[] #[.pointer (some ⟨g2, 0, none⟩)]) ?_
 refine E.vl (.agg #[.bool false, .bool false, .bool true, .bool false, .int .i64 2, .int .i64 18, .int .u32 4]) (fun w h => E.run_build #[.bool false, .bool false, .bool true, .bool false, .int .i64 2, .int .i64 18, .int .u32 4] (by kernel_rfl) w) ?_
 refine E.G.buildSlice [.int .i64 54] (by kernel_rfl) (by kernel_rfl) (fun g67 => ?_)
 refine A.G.call (I := Unit) (D := fun _ => True) (V := fun _ => .tuple #[]) (q := fun _ => [A.blk g2 (Q.tab Q.t32), A.blk g67 ([.int .i64 54])]) [A.blk g1 (Q.tab (fun _ => Q.sh0))] (fun _ => [(g2, (Q.tab Q.t32)), (g67, [.int .i64 54]), (g1, (Q.tab (fun _ => Q.sh0)))]) (fun _ => []) (Set1 (gt := g2) (go := g67) (f := Q.t31) ⟨false, false, true, false, 2, 18, 4⟩ 54 (by decide)) (by kernel_rfl) (A.pn [1, 0, 2]) (fun _ => A.pm [0, 1, 2] (by kernel_rfl) (by kernel_rfl)) (fun w _ => by kernel_rfl) (by kernel_rfl) (fun _ hd68 => ?_)
 refine E.tr ?_
 refine E.vl (.agg (Q.tab Q.t32).toArray) (fun w h => E.run_load h 0 rfl rfl (Q.ld_all (by kernel_rfl) (by kernel_rfl))) ?_
 refine E.G.store 2 (Q.tab Q.t32) rfl rfl (Q.sto_all (by kernel_rfl)) (by kernel_rfl) ?_
 refine E.To.code ?_
 refine E.C.ret (E.To.body (fn := Try.f93) [.agg (Q.tab Q.t32).toArray] ?_ ?_)
 · exact ⟨⟨by kernel_rfl, _, _, 2, _, rfl, rfl, by kernel_rfl⟩, trivial⟩
 intro w h
 exact ⟨rfl, h.ch.bel (fun x hx => (hh.1 x hx).elim)⟩
theorem shapes_any (w : World) : Calls Try.prog 93 #[] w fun e w' => e = .returned (.agg (Q.tab Q.t32).toArray) ∧ Bel w w' := Shapes_rd w (fun _ => False) (fun _ => False) ⟨fun _ h => h, fun _ h => h⟩
end Go.Proofs.Ytgbndbljohpnmaa

/- XWg -/
namespace Go.Proofs.Ytgbndbljohpnmaa
set_option linter.unusedVariables false
set_option linter.unusedSimpArgs false
open Go.RowKit

theorem Sign_any (n k : Int) (h0 : 0 ≤ n) (h1 : n < 4294967296) (k0 : -9223372036854775808 ≤ k) (k1 : k ≤ 9223372036854775807) (w : World) :
    Calls Try.prog 77 #[.int .u32 n, .int .i64 k] w fun e w' => e = .returned (.int .u32 (W.sign n k)) ∧ Bel w w' := by
  by_cases a : k < 1
  · have HS := hid (W.sign_lo n k a)
    go_enter Try.func77, Try.ntmps77
    go_wp2
    go_ret
    exact ⟨ret_int (by rw [HS.out]), (by repeat (first | assumption | exact Bel.refl _ | refine Bel.drew ?_ | refine Bel.drewN ?_ _ | refine Bel.alloc ?_ _ | (refine Bel.trans ?_ (by assumption)) | (refine Bel.then ?_ (by assumption) (by intro x hx; first | (subst hx; simp; done) | (simp at *; omega)))))⟩
  by_cases b : 32 ≤ k
  · have HS := hid (W.sign_hi n k b)
    go_enter Try.func77, Try.ntmps77
    go_wp2
    go_ret
    exact ⟨ret_int (by rw [HS.out]), (by repeat (first | assumption | exact Bel.refl _ | refine Bel.drew ?_ | refine Bel.drewN ?_ _ | refine Bel.alloc ?_ _ | (refine Bel.trans ?_ (by assumption)) | (refine Bel.then ?_ (by assumption) (by intro x hx; first | (subst hx; simp; done) | (simp at *; omega)))))⟩
  · have HS := hid (W.sign_shift n k h0 h1 (by omega) (by omega))
    go_enter Try.func77, Try.ntmps77
    go_wp2
    go_ret
    exact ⟨ret_int (by rw [HS.out]), (by repeat (first | assumption | exact Bel.refl _ | refine Bel.drew ?_ | refine Bel.drewN ?_ _ | refine Bel.alloc ?_ _ | (refine Bel.trans ?_ (by assumption)) | (refine Bel.then ?_ (by assumption) (by intro x hx; first | (subst hx; simp; done) | (simp at *; omega)))))⟩
theorem rSign_any (n k : Int) (h0 : 0 ≤ n) (h1 : n < 4294967296) (k0 : -9223372036854775808 ≤ k) (k1 : k ≤ 9223372036854775807) (w : World) :
    Calls Try.prog 28 #[.int .u32 n, .int .i64 k] w fun e w' => e = .returned (.int .u32 (W.sign n k)) ∧ Bel w w' := by
  by_cases a : k < 1
  · have HS := hid (W.sign_lo n k a)
    go_enter Try.func28, Try.ntmps28
    go_wp2
    go_ret
    exact ⟨ret_int (by rw [HS.out]), (by repeat (first | assumption | exact Bel.refl _ | refine Bel.drew ?_ | refine Bel.drewN ?_ _ | refine Bel.alloc ?_ _ | (refine Bel.trans ?_ (by assumption)) | (refine Bel.then ?_ (by assumption) (by intro x hx; first | (subst hx; simp; done) | (simp at *; omega)))))⟩
  by_cases b : 32 ≤ k
  · have HS := hid (W.sign_hi n k b)
    go_enter Try.func28, Try.ntmps28
    go_wp2
    go_ret
    exact ⟨ret_int (by rw [HS.out]), (by repeat (first | assumption | exact Bel.refl _ | refine Bel.drew ?_ | refine Bel.drewN ?_ _ | refine Bel.alloc ?_ _ | (refine Bel.trans ?_ (by assumption)) | (refine Bel.then ?_ (by assumption) (by intro x hx; first | (subst hx; simp; done) | (simp at *; omega)))))⟩
  · obtain ⟨z, s1, s2⟩ := W.sign_mod n k h0 h1 (by omega) (by omega)
    have S1 := hid s1
    have S2 := hid s2
    clear s1 s2
    go_enter Try.func28, Try.ntmps28
    go_wp2
    · go_ret
      exact ⟨ret_int (by have := S1.out (by assumption); omega), (by repeat (first | assumption | exact Bel.refl _ | refine Bel.drew ?_ | refine Bel.drewN ?_ _ | refine Bel.alloc ?_ _ | (refine Bel.trans ?_ (by assumption)) | (refine Bel.then ?_ (by assumption) (by intro x hx; first | (subst hx; simp; done) | (simp at *; omega)))))⟩
    · go_ret
      exact ⟨ret_int (by rw [S2.out (by assumption)]), (by repeat (first | assumption | exact Bel.refl _ | refine Bel.drew ?_ | refine Bel.drewN ?_ _ | refine Bel.alloc ?_ _ | (refine Bel.trans ?_ (by assumption)) | (refine Bel.then ?_ (by assumption) (by intro x hx; first | (subst hx; simp; done) | (simp at *; omega)))))⟩
theorem Fits_any (n k : Int) (h0 : 0 ≤ n) (h1 : n < 4294967296) (k0 : -9223372036854775808 ≤ k) (k1 : k ≤ 9223372036854775807) (w : World) :
    Calls Try.prog 98 #[.int .u32 n, .int .i64 k] w fun e w' => e = .returned (.bool (W.sign n k == n)) ∧ Bel w w' := by
  go_enter Try.func98, Try.ntmps98
  go_wp2_with (go_at_call 77; refine (Sign_any _ _ h0 h1 k0 k1 _).mono ?_; rintro e w' ⟨rfl, hb⟩)
  go_ret
  exact ⟨rfl, (by repeat (first | assumption | exact Bel.refl _ | refine Bel.drew ?_ | refine Bel.drewN ?_ _ | refine Bel.alloc ?_ _ | (refine Bel.trans ?_ (by assumption)) | (refine Bel.then ?_ (by assumption) (by intro x hx; first | (subst hx; simp; done) | (simp at *; omega)))))⟩
theorem rFits_any (n k : Int) (h0 : 0 ≤ n) (h1 : n < 4294967296) (k0 : -9223372036854775808 ≤ k) (k1 : k ≤ 9223372036854775807) (w : World) :
    Calls Try.prog 66 #[.int .u32 n, .int .i64 k] w fun e w' => e = .returned (.bool (W.sign n k == n)) ∧ Bel w w' := by
  go_enter Try.func66, Try.ntmps66
  go_wp2_with (go_at_call 28; refine (rSign_any _ _ h0 h1 k0 k1 _).mono ?_; rintro e w' ⟨rfl, hb⟩)
  go_ret
  exact ⟨rfl, (by repeat (first | assumption | exact Bel.refl _ | refine Bel.drew ?_ | refine Bel.drewN ?_ _ | refine Bel.alloc ?_ _ | (refine Bel.trans ?_ (by assumption)) | (refine Bel.then ?_ (by assumption) (by intro x hx; first | (subst hx; simp; done) | (simp at *; omega)))))⟩
end Go.Proofs.Ytgbndbljohpnmaa

/- XW5 -/
namespace Go.Proofs.Ytgbndbljohpnmaa.W
set_option linter.unusedVariables false
set_option linter.unusedSimpArgs false
open Go.RowKit
def b01 (b : Bool) : Int := if b = true then 1 else 0
theorem b01_bd (b : Bool) : 0 ≤ b01 b ∧ b01 b ≤ 1 := by cases b <;> simp [b01]
/-- What an operation yields. -/
def op (c a b : Int) : Int :=
  if c = 3 then (a + b) % 4294967296 else if c = 4 then (a - b) % 4294967296 else if c = 5 then bits .and .u32 a b else if c = 6 then bits .or .u32 a b
  else if c = 7 then bits .xor .u32 a b else if c = 8 then a * 2 ^ (b % 32).toNat % 4294967296 else if c = 9 then a / 2 ^ (b % 32).toNat
  else if c = 10 then sg a / 2 ^ (b % 32).toNat % 4294967296 else if c = 11 then a * b % 4294967296 else if c = 12 then a / b
  else if c = 13 then b01 (a == b) else if c = 14 then b01 (decide (a < b)) else if c = 15 then b01 (decide (sg a < sg b)) else 0
theorem op_n (c a b : Int) (h : c < 3 ∨ 15 < c) : op c a b = 0 := by
  unfold op
  iterate 13 rw [if_neg (by omega)]
theorem sg_wrap (a : Int) (h0 : 0 ≤ a) (h1 : a < 4294967296) : wrap32 a = sg a := by unfold sg wrap32; split <;> omega
theorem op_3 (a b : Int) : op 3 a b = (a + b) % 4294967296 := by simp [op]
theorem op_4 (a b : Int) : op 4 a b = (a - b) % 4294967296 := by simp [op]
theorem op_5 (a b : Int) : op 5 a b = bits .and .u32 a b := by simp [op]
theorem op_6 (a b : Int) : op 6 a b = bits .or .u32 a b := by simp [op]
theorem op_7 (a b : Int) : op 7 a b = bits .xor .u32 a b := by simp [op]
theorem op_8 (a b : Int) : op 8 a b = a * 2 ^ (b % 32).toNat % 4294967296 := by simp [op]
theorem op_9 (a b : Int) : op 9 a b = a / 2 ^ (b % 32).toNat := by simp [op]
theorem op_10 (a b : Int) : op 10 a b = sg a / 2 ^ (b % 32).toNat % 4294967296 := by simp [op]
theorem op_11 (a b : Int) : op 11 a b = a * b % 4294967296 := by simp [op]
theorem op_12 (a b : Int) : op 12 a b = a / b := by simp [op]
theorem op_13 (a b : Int) : op 13 a b = b01 (a == b) := by simp [op]
theorem op_14 (a b : Int) : op 14 a b = b01 (decide (a < b)) := by simp [op]
theorem op_15 (a b : Int) : op 15 a b = b01 (decide (sg a < sg b)) := by simp [op]
theorem bits_bd (o : BinOp) (x y : Int) : 0 ≤ bits o .u32 x y ∧ bits o .u32 x y < 4294967296 := by
  unfold bits
  rw [IntKind.wrap_u32']
  exact ⟨Int.emod_nonneg _ (by decide), Int.emod_lt_of_pos _ (by decide)⟩
def InW (x : Int) : Prop := 0 ≤ x ∧ x < 4294967296
theorem InW.ite {c : Prop} [Decidable c] {a b : Int} (h : InW a) (k : InW b) : InW (if c then a else b) := by split <;> assumption
theorem op_bd (c a b : Int) (ha : 0 ≤ a) (ha' : a < 4294967296) (hb : 0 ≤ b) : 0 ≤ op c a b ∧ op c a b < 4294967296 := by
  show InW (op c a b)
  unfold op
  repeat' (refine InW.ite ?_ ?_)
  all_goals first
    | exact bits_bd _ _ _
    | exact ⟨Int.emod_nonneg _ (by decide), Int.emod_lt_of_pos _ (by decide)⟩
    | exact ⟨by decide, by decide⟩
    | exact ⟨(b01_bd _).1, by have := (b01_bd (a == b)).2; have := (b01_bd (decide (a < b))).2; have := (b01_bd (decide (sg a < sg b))).2; omega⟩
    | exact ⟨Int.ediv_nonneg ha hb, Int.lt_of_le_of_lt (Int.ediv_le_self _ ha) ha'⟩
    | exact ⟨Int.ediv_nonneg ha (Int.le_of_lt (Int.pow_pos (by decide))), Int.lt_of_le_of_lt (Int.ediv_le_self _ ha) ha'⟩
end Go.Proofs.Ytgbndbljohpnmaa.W

/- XQc -/
namespace Go.Proofs.Ytgbndbljohpnmaa
set_option linter.unusedVariables false
set_option linter.unusedSimpArgs false
open Go.RowKit
theorem Q.wrap_bd (x : Int) : 0 ≤ IntKind.wrap .u32 x ∧ IntKind.wrap .u32 x < 4294967296 := by
  show 0 ≤ x % 4294967296 ∧ x % 4294967296 < 4294967296
  omega
def Q.of (op : Int) : Q.Sh := (bif ((decide (op < 0)) || (decide (op ≥ 64))) then ⟨false, false, false, false, 0, 0, 0⟩ else (Q.shf (op).toNat))
theorem of_any (op : Int) (w : World) : Calls Try.prog 75 #[.int .i64 op] w fun e w' => e = .returned (.agg #[.bool ((Q.of op).kn), .bool ((Q.of op).d), .bool ((Q.of op).a), .bool ((Q.of op).b), .int .i64 ((Q.of op).kind), .int .i64 (((Q.of op).bits : Nat) : Int), .int .u32 ((Q.of op).most)]) ∧ Bel w w' := by
 refine E.enter (n := 15) (S := fun _ => False) Try.func75 rfl rfl (by kernel_rfl) (E.Hp.start w) ?_
 refine E.sr ?_
 refine E.G.new (fun g => .pointer (some ⟨g, 0, none⟩)) [.bool false, .bool false, .bool false, .bool false, .int .i64 0, .int .i64 0, .int .u32 0] 142 (fun w => by kernel_rfl) (by kernel_rfl) (fun g1 => ?_)
 refine E.tr ?_
 refine E.G.call (.agg (Q.tab Q.shf).toArray) (fun w h => shapes_any w) (fun w _ => by kernel_rfl) (by kernel_rfl) ?_
 refine E.G.new (fun g => .pointer (some ⟨g, 0, none⟩)) (Q.tab (fun _ => Q.sh0)) 145 (fun w => by kernel_rfl) (by kernel_rfl) (fun g2 => ?_)
 refine E.G.store 0 (Q.tab Q.shf) rfl rfl (Q.sto_all (by kernel_rfl)) (by kernel_rfl) ?_
 refine E.To.code ?_
 refine E.C.seq ?_
 refine E.sr ?_
 refine E.op (.int .i64 op) ?_
 refine E.op (.bool (decide (op < 0))) ?_
 refine E.op (.bool (decide (op < 0))) ?_
 refine E.G.cut 3 [(0, .int .i64 op), (2, .pointer (some ⟨g1, 0, none⟩)), (3, .pointer (some ⟨g2, 0, none⟩)), (10, .bool ((decide (op < 0)) || (decide (op ≥ 64))))] (fun _ => True) [(g2, (Q.tab Q.shf)), (g1, [.bool false, .bool false, .bool false, .bool false, .int .i64 0, .int .i64 0, .int .u32 0])] ?_ ?_
 ·
  generalize hc3 : (decide (op < 0)) = b4
  cases b4
  ·
   refine E.op (.int .i64 op) ?_
   refine E.op (.bool (decide (op ≥ 64))) ?_
   refine E.op (.bool (decide (op ≥ 64))) ?_
   exact E.G.end_pst ⟨by kernel_rfl, by kernel_rfl⟩ (List.Sublist.refl _) (fun _ h => h)
  refine E.sk ?_
  refine E.sk ?_
  refine E.op (.bool true) ?_
  exact E.G.end_pst ⟨by kernel_rfl, by kernel_rfl⟩ (List.Sublist.refl _) (fun _ h => h)
 refine E.To.code ?_
 refine E.cd ((decide (op < 0)) || (decide (op ≥ 64))) (fun hc5 => ?_) (fun hc5 => ?_)
 ·
  refine E.sr ?_
  refine E.vl (.agg #[.bool false, .bool false, .bool false, .bool false, .int .i64 0, .int .i64 0, .int .u32 0]) (fun w h => E.run_build #[.bool false, .bool false, .bool false, .bool false, .int .i64 0, .int .i64 0, .int .u32 0] (by kernel_rfl) w) ?_
  refine E.st 1 [.bool false, .bool false, .bool false, .bool false, .int .i64 0, .int .i64 0, .int .u32 0] rfl rfl ?_
  refine E.To.code ?_
  refine E.C.ret (E.P.rt (E.To.body (fn := Try.f75) [.agg #[.bool false, .bool false, .bool false, .bool false, .int .i64 0, .int .i64 0, .int .u32 0]] ?_ ?_))
  · exact ⟨⟨by kernel_rfl, _, _, 1, _, rfl, rfl, by kernel_rfl⟩, trivial⟩
  intro w h
  exact ⟨by show Ending.returned (.agg #[.bool false, .bool false, .bool false, .bool false, .int .i64 0, .int .i64 0, .int .u32 0]) = _; unfold Q.of; rw [hc5, cond_true] <;> rfl, h.ch.bel (fun _ h => h.elim)⟩
 refine E.C.skip (E.To.code ?_)
 refine E.sr ?_
 refine E.op (.int .i64 op) ?_
 refine E.vl (.pointer (some ⟨g2, 0 + (op).toNat * 7, none⟩)) (fun w h => E.idxA (e := 142) g2 0 64 7 .i64 (op) (by kernel_rfl) (by kernel_rfl) (by kernel_rfl) (by kernel_rfl) (by simp only [Bool.or_eq_false_iff, decide_eq_false_iff_not] at *; omega) (by simp only [Bool.or_eq_false_iff, decide_eq_false_iff_not] at *; omega) w) ?_
 refine E.vl (.agg #[.bool ((Q.shf (op).toNat).kn), .bool ((Q.shf (op).toNat).d), .bool ((Q.shf (op).toNat).a), .bool ((Q.shf (op).toNat).b), .int .i64 ((Q.shf (op).toNat).kind), .int .i64 (((Q.shf (op).toNat).bits : Nat) : Int), .int .u32 ((Q.shf (op).toNat).most)]) (fun w h => E.run_load h 0 rfl rfl (Q.ld_tab (by kernel_rfl) (by kernel_rfl) (by simp only [Bool.or_eq_false_iff, decide_eq_false_iff_not] at *; omega))) ?_
 refine E.st 1 [.bool ((Q.shf (op).toNat).kn), .bool ((Q.shf (op).toNat).d), .bool ((Q.shf (op).toNat).a), .bool ((Q.shf (op).toNat).b), .int .i64 ((Q.shf (op).toNat).kind), .int .i64 (((Q.shf (op).toNat).bits : Nat) : Int), .int .u32 ((Q.shf (op).toNat).most)] rfl rfl ?_
 refine E.To.code ?_
 refine E.C.ret (E.To.body (fn := Try.f75) [.agg #[.bool ((Q.shf (op).toNat).kn), .bool ((Q.shf (op).toNat).d), .bool ((Q.shf (op).toNat).a), .bool ((Q.shf (op).toNat).b), .int .i64 ((Q.shf (op).toNat).kind), .int .i64 (((Q.shf (op).toNat).bits : Nat) : Int), .int .u32 ((Q.shf (op).toNat).most)]] ?_ ?_)
 · exact ⟨⟨by kernel_rfl, _, _, 1, _, rfl, rfl, by kernel_rfl⟩, trivial⟩
 intro w h
 exact ⟨by show Ending.returned (.agg #[.bool ((Q.shf (op).toNat).kn), .bool ((Q.shf (op).toNat).d), .bool ((Q.shf (op).toNat).a), .bool ((Q.shf (op).toNat).b), .int .i64 ((Q.shf (op).toNat).kind), .int .i64 (((Q.shf (op).toNat).bits : Nat) : Int), .int .u32 ((Q.shf (op).toNat).most)]) = _; unfold Q.of; rw [hc5, cond_false] <;> rfl, h.ch.bel (fun _ h => h.elim)⟩
def Q.fits (n : Int) (u : Bool) : Bool := ((n == 0) || ((u && (decide (n > 0))) && (decide (n < 16))))
theorem fits_any (n : Int) (u : Bool) (w : World) : Calls Try.prog 96 #[.int .i64 n, .bool u] w fun e w' => e = .returned (.bool (Q.fits n u)) ∧ Bel w w' := by
 refine E.enter (n := 18) (S := fun _ => False) Try.func96 rfl rfl (by kernel_rfl) (E.Hp.start w) ?_
 refine E.sr ?_
 refine E.op (.bool false) ?_
 refine E.tr ?_
 refine E.op (.int .i64 n) ?_
 refine E.op (.bool (n == 0)) ?_
 refine E.op (.bool (n == 0)) ?_
 refine E.G.cut 10 [(4, .bool false), (17, .bool ((n == 0) || ((u && (decide (n > 0))) && (decide (n < 16)))))] (fun _ => True) [] ?_ ?_
 ·
  generalize hc1 : (n == 0) = b2
  cases b2
  ·
   refine E.op (.bool u) ?_
   refine E.op (.bool u) ?_
   refine E.G.cut 3 [(0, .int .i64 n), (4, .bool false), (7, .bool false), (12, .bool (u && (decide (n > 0))))] (fun _ => True) [] ?_ ?_
   ·
    generalize hc3 : u = b4
    cases b4
    ·
     refine E.sk ?_
     refine E.sk ?_
     refine E.op (.bool false) ?_
     exact E.G.end_pst ⟨by kernel_rfl, by kernel_rfl⟩ (List.Sublist.refl _) (fun _ h => h)
    refine E.op (.int .i64 n) ?_
    refine E.op (.bool (decide (n > 0))) ?_
    refine E.op (.bool (decide (n > 0))) ?_
    exact E.G.end_pst ⟨by kernel_rfl, by kernel_rfl⟩ (List.Sublist.refl _) (fun _ h => h)
   refine E.op (.bool (u && (decide (n > 0)))) ?_
   refine E.G.cut 3 [(4, .bool false), (7, .bool false), (16, .bool ((u && (decide (n > 0))) && (decide (n < 16))))] (fun _ => True) [] ?_ ?_
   ·
    generalize hc5 : (u && (decide (n > 0))) = b6
    cases b6
    ·
     refine E.sk ?_
     refine E.sk ?_
     refine E.op (.bool false) ?_
     exact E.G.end_pst ⟨by kernel_rfl, by kernel_rfl⟩ (List.Sublist.refl _) (fun _ h => h)
    refine E.op (.int .i64 n) ?_
    refine E.op (.bool (decide (n < 16))) ?_
    refine E.op (.bool (decide (n < 16))) ?_
    exact E.G.end_pst ⟨by kernel_rfl, by kernel_rfl⟩ (List.Sublist.refl _) (fun _ h => h)
   refine E.op (.bool ((u && (decide (n > 0))) && (decide (n < 16)))) ?_
   exact E.G.end_pst ⟨by kernel_rfl, by kernel_rfl⟩ (List.Sublist.refl _) (fun _ h => h)
  refine E.sk ?_
  refine E.sk ?_
  refine E.sk ?_
  refine E.sk ?_
  refine E.sk ?_
  refine E.sk ?_
  refine E.sk ?_
  refine E.sk ?_
  refine E.sk ?_
  refine E.op (.bool true) ?_
  exact E.G.end_pst ⟨by kernel_rfl, by kernel_rfl⟩ (List.Sublist.refl _) (fun _ h => h)
 refine E.op (.bool ((n == 0) || ((u && (decide (n > 0))) && (decide (n < 16))))) ?_
 refine E.To.code ?_
 refine E.C.ret (E.To.body (fn := Try.f96) [.bool ((n == 0) || ((u && (decide (n > 0))) && (decide (n < 16))))] ?_ ?_)
 · exact ⟨⟨by kernel_rfl, by kernel_rfl⟩, trivial⟩
 intro w h
 exact ⟨rfl, h.ch.bel (fun _ h => h.elim)⟩

/-- Formats are small. -/
def Q.Sh.ok (s : Q.Sh) : Prop := s.bits ≤ 32

def Q.immediate (s : Q.Sh) (n : Int) : Bool := (bif (s.kind == 0) then (n == 0) else (bif (s.kind == 1) then (W.sign n ((s.bits : Nat) : Int) == n) else (bif (decide (s.most > 0)) then (decide (n ≤ s.most)) else ((Int.fdiv n (2 ^ (min s.bits 32))) == 0))))
theorem immediate_any (s : Q.Sh) (n : Int) (hs : s.bits ≤ 32) (hm : 0 ≤ n ∧ n < 4294967296) (w : World) : Calls Try.prog 97 #[.agg #[.bool s.kn, .bool s.d, .bool s.a, .bool s.b, .int .i64 s.kind, .int .i64 ((s.bits : Nat) : Int), .int .u32 s.most], .int .u32 n] w fun e w' => e = .returned (.bool (Q.immediate s n)) ∧ Bel w w' := by
 refine E.enter (n := 32) (S := fun _ => False) Try.func97 rfl rfl (by kernel_rfl) (E.Hp.start w) ?_
 refine E.sr ?_
 refine E.G.new (fun g => .pointer (some ⟨g, 0, none⟩)) [.bool s.kn, .bool s.d, .bool s.a, .bool s.b, .int .i64 s.kind, .int .i64 ((s.bits : Nat) : Int), .int .u32 s.most] 142 (fun w => by kernel_rfl) (by kernel_rfl) (fun g1 => ?_)
 refine E.op (.bool false) ?_
 refine E.To.code ?_
 refine E.C.seq ?_
 refine E.C.block ?_
 refine E.sr ?_
 refine E.op (.pointer (some ⟨g1, 4, none⟩)) ?_
 refine E.li (.int .i64 s.kind) 0 rfl rfl ?_
 refine E.op (.bool (s.kind == 0)) ?_
 refine E.op (.bool (s.kind == 0)) ?_
 refine E.To.code ?_
 refine E.cd (s.kind == 0) (fun hc2 => ?_) (fun hc2 => ?_)
 ·
  refine E.sr ?_
  refine E.op (.int .u32 n) ?_
  refine E.op (.bool (n == 0)) ?_
  refine E.op (.bool (n == 0)) ?_
  refine E.To.code ?_
  refine E.C.ret (E.P.rb (E.P.rt (E.To.body (fn := Try.f97) [.bool (n == 0)] ?_ ?_)))
  · exact ⟨⟨by kernel_rfl, by kernel_rfl⟩, trivial⟩
  intro w h
  exact ⟨by show Ending.returned (.bool (n == 0)) = _; unfold Q.immediate; rw [hc2, cond_true] <;> rfl, h.ch.bel (fun _ h => h.elim)⟩
 refine E.sr ?_
 refine E.op (.pointer (some ⟨g1, 4, none⟩)) ?_
 refine E.li (.int .i64 s.kind) 0 rfl rfl ?_
 refine E.op (.bool (s.kind == 1)) ?_
 refine E.op (.bool (s.kind == 1)) ?_
 refine E.To.code ?_
 refine E.wk [(1, .int .u32 n), (2, .pointer (some ⟨g1, 0, none⟩)), (4, .bool false), (11, .bool (s.kind == 1))] [(g1, [.bool s.kn, .bool s.d, .bool s.a, .bool s.b, .int .i64 s.kind, .int .i64 ((s.bits : Nat) : Int), .int .u32 s.most])] (List.Sublist.refl _) ?_
 refine E.cd (s.kind == 1) (fun hc3 => ?_) (fun hc3 => ?_)
 ·
  refine E.sr ?_
  refine E.op (.int .u32 n) ?_
  refine E.op (.pointer (some ⟨g1, 5, none⟩)) ?_
  refine E.li (.int .i64 ((s.bits : Nat) : Int)) 0 rfl rfl ?_
  refine E.G.call (.bool (W.sign n ((s.bits : Nat) : Int) == n)) (fun w h => Fits_any n ((s.bits : Nat) : Int) hm.1 hm.2 (by omega) (by omega) w) (fun w _ => by kernel_rfl) (by kernel_rfl) ?_
  refine E.op (.bool (W.sign n ((s.bits : Nat) : Int) == n)) ?_
  refine E.To.code ?_
  refine E.C.ret (E.P.rb (E.P.rt (E.To.body (fn := Try.f97) [.bool (W.sign n ((s.bits : Nat) : Int) == n)] ?_ ?_)))
  · exact ⟨⟨by kernel_rfl, by kernel_rfl⟩, trivial⟩
  intro w h
  exact ⟨by show Ending.returned (.bool (W.sign n ((s.bits : Nat) : Int) == n)) = _; unfold Q.immediate; rw [hc2, cond_false, hc3, cond_true] <;> rfl, h.ch.bel (fun _ h => h.elim)⟩
 refine E.sr ?_
 refine E.op (.pointer (some ⟨g1, 6, none⟩)) ?_
 refine E.li (.int .u32 s.most) 0 rfl rfl ?_
 refine E.op (.bool (decide (s.most > 0))) ?_
 refine E.op (.bool (decide (s.most > 0))) ?_
 refine E.To.code ?_
 refine E.cd (decide (s.most > 0)) (fun hc4 => ?_) (fun hc4 => ?_)
 ·
  refine E.sr ?_
  refine E.op (.int .u32 n) ?_
  refine E.op (.pointer (some ⟨g1, 6, none⟩)) ?_
  refine E.li (.int .u32 s.most) 0 rfl rfl ?_
  refine E.op (.bool (decide (n ≤ s.most))) ?_
  refine E.op (.bool (decide (n ≤ s.most))) ?_
  refine E.To.code ?_
  refine E.wk [(1, .int .u32 n), (2, .pointer (some ⟨g1, 0, none⟩)), (4, .bool (decide (n ≤ s.most)))] [(g1, [.bool s.kn, .bool s.d, .bool s.a, .bool s.b, .int .i64 s.kind, .int .i64 ((s.bits : Nat) : Int), .int .u32 s.most])] (List.Sublist.refl _) ?_
  refine E.C.ret (E.P.rb (E.P.rt (E.To.body (fn := Try.f97) [.bool (decide (n ≤ s.most))] ?_ ?_)))
  · exact ⟨⟨by kernel_rfl, by kernel_rfl⟩, trivial⟩
  intro w h
  exact ⟨by show Ending.returned (.bool (decide (n ≤ s.most))) = _; unfold Q.immediate; rw [hc2, cond_false, hc3, cond_false, hc4, cond_true] <;> rfl, h.ch.bel (fun _ h => h.elim)⟩
 refine E.C.skip (E.P.nb (E.To.code ?_))
 refine E.sr ?_
 refine E.op (.int .u32 n) ?_
 refine E.op (.pointer (some ⟨g1, 5, none⟩)) ?_
 refine E.li (.int .i64 ((s.bits : Nat) : Int)) 0 rfl rfl ?_
 refine E.vl (.int .u32 (Int.fdiv n (2 ^ (min s.bits 32)))) (fun w h => E.shrN (k2 := .i64) n s.bits 32 (by rfl) (by kernel_rfl) (by kernel_rfl) w) ?_
 refine E.op (.bool ((Int.fdiv n (2 ^ (min s.bits 32))) == 0)) ?_
 refine E.op (.bool ((Int.fdiv n (2 ^ (min s.bits 32))) == 0)) ?_
 refine E.To.code ?_
 refine E.wk [(4, .bool ((Int.fdiv n (2 ^ (min s.bits 32))) == 0))] [] (List.nil_sublist _) ?_
 refine E.C.ret (E.To.body (fn := Try.f97) [.bool ((Int.fdiv n (2 ^ (min s.bits 32))) == 0)] ?_ ?_)
 · exact ⟨⟨by kernel_rfl, by kernel_rfl⟩, trivial⟩
 intro w h
 exact ⟨by show Ending.returned (.bool ((Int.fdiv n (2 ^ (min s.bits 32))) == 0)) = _; unfold Q.immediate; rw [hc2, cond_false, hc3, cond_false, hc4, cond_false] <;> rfl, h.ch.bel (fun _ h => h.elim)⟩

theorem Q.of_lt {x : Int} (h : 0 ≤ x ∧ x < 64) : Q.of x = Q.shf x.toNat := by
  unfold Q.of; rw [show (decide (x < 0) || decide (x ≥ 64)) = false by rw [Bool.or_eq_false_iff, decide_eq_false_iff_not, decide_eq_false_iff_not]; omega]; rfl
theorem Q.of_out {x : Int} (h : ¬ (0 ≤ x ∧ x < 64)) : Q.of x = ⟨false, false, false, false, 0, 0, 0⟩ := by
  unfold Q.of; rw [show (decide (x < 0) || decide (x ≥ 64)) = true by rw [Bool.or_eq_true, decide_eq_true_eq, decide_eq_true_eq]; omega]; rfl
theorem Q.shf_bits : ∀ k : Fin 64, (Q.shf k.val).bits ≤ 32 := by decide +kernel
theorem Q.of_bits (x : Int) : (Q.of x).bits ≤ 32 := by
  by_cases h : 0 ≤ x ∧ x < 64
  · rw [Q.of_lt h]; exact Q.shf_bits ⟨x.toNat, by omega⟩
  · rw [Q.of_out h]; exact Nat.zero_le _

def Q.valid (i : Q.I) : Bool := ((((((Q.of i.op).kn) && (Q.fits i.d ((Q.of i.op).d))) && (Q.fits i.a ((Q.of i.op).a))) && (Q.fits i.b ((Q.of i.op).b))) && (Q.immediate (Q.of i.op) i.imm))
theorem Valid_any (i : Q.I) (hm : 0 ≤ i.imm ∧ i.imm < 4294967296) (w : World) : Calls Try.prog 94 #[.agg #[.int .i64 i.op, .int .i64 i.d, .int .i64 i.a, .int .i64 i.b, .int .u32 i.imm]] w fun e w' => e = .returned (.bool (Q.valid i)) ∧ Bel w w' := by
 refine E.enter (n := 36) (S := fun _ => False) Try.func94 rfl rfl (by kernel_rfl) (E.Hp.start w) ?_
 refine E.sr ?_
 refine E.G.new (fun g => .pointer (some ⟨g, 0, none⟩)) [.int .i64 i.op, .int .i64 i.d, .int .i64 i.a, .int .i64 i.b, .int .u32 i.imm] 47 (fun w => by kernel_rfl) (by kernel_rfl) (fun g1 => ?_)
 refine E.op (.bool false) ?_
 refine E.tr ?_
 refine E.op (.pointer (some ⟨g1, 0, none⟩)) ?_
 refine E.li (.int .i64 i.op) 0 rfl rfl ?_
 refine E.G.call (.agg #[.bool ((Q.of i.op).kn), .bool ((Q.of i.op).d), .bool ((Q.of i.op).a), .bool ((Q.of i.op).b), .int .i64 ((Q.of i.op).kind), .int .i64 (((Q.of i.op).bits : Nat) : Int), .int .u32 ((Q.of i.op).most)]) (fun w h => of_any i.op w) (fun w _ => by kernel_rfl) (by kernel_rfl) ?_
 refine E.G.new (fun g => .pointer (some ⟨g, 0, none⟩)) [.bool false, .bool false, .bool false, .bool false, .int .i64 0, .int .i64 0, .int .u32 0] 142 (fun w => by kernel_rfl) (by kernel_rfl) (fun g2 => ?_)
 refine E.st 0 [.bool ((Q.of i.op).kn), .bool ((Q.of i.op).d), .bool ((Q.of i.op).a), .bool ((Q.of i.op).b), .int .i64 ((Q.of i.op).kind), .int .i64 (((Q.of i.op).bits : Nat) : Int), .int .u32 ((Q.of i.op).most)] rfl rfl ?_
 refine E.tr ?_
 refine E.op (.pointer (some ⟨g2, 0, none⟩)) ?_
 refine E.li (.bool ((Q.of i.op).kn)) 0 rfl rfl ?_
 refine E.op (.bool ((Q.of i.op).kn)) ?_
 refine E.G.cut 6 [(1, .pointer (some ⟨g1, 0, none⟩)), (2, .bool false), (3, .pointer (some ⟨g2, 0, none⟩)), (15, .bool (((Q.of i.op).kn) && (Q.fits i.d ((Q.of i.op).d))))] (fun _ => True) [(g2, [.bool ((Q.of i.op).kn), .bool ((Q.of i.op).d), .bool ((Q.of i.op).a), .bool ((Q.of i.op).b), .int .i64 ((Q.of i.op).kind), .int .i64 (((Q.of i.op).bits : Nat) : Int), .int .u32 ((Q.of i.op).most)]), (g1, [.int .i64 i.op, .int .i64 i.d, .int .i64 i.a, .int .i64 i.b, .int .u32 i.imm])] ?_ ?_
 ·
  generalize hc3 : (Q.of i.op).kn = b4
  cases b4
  ·
   refine E.sk ?_
   refine E.sk ?_
   refine E.sk ?_
   refine E.sk ?_
   refine E.sk ?_
   refine E.op (.bool false) ?_
   exact E.G.end_pst ⟨by kernel_rfl, by kernel_rfl⟩ (List.Sublist.refl _) (fun _ h => h)
  refine E.op (.pointer (some ⟨g1, 1, none⟩)) ?_
  refine E.li (.int .i64 i.d) 1 rfl rfl ?_
  refine E.op (.pointer (some ⟨g2, 1, none⟩)) ?_
  refine E.li (.bool ((Q.of i.op).d)) 0 rfl rfl ?_
  refine E.G.call (.bool (Q.fits i.d ((Q.of i.op).d))) (fun w h => fits_any i.d ((Q.of i.op).d) w) (fun w _ => by kernel_rfl) (by kernel_rfl) ?_
  refine E.op (.bool (Q.fits i.d ((Q.of i.op).d))) ?_
  exact E.G.end_pst ⟨by kernel_rfl, by kernel_rfl⟩ (List.Sublist.refl _) (fun _ h => h)
 refine E.op (.bool (((Q.of i.op).kn) && (Q.fits i.d ((Q.of i.op).d)))) ?_
 refine E.G.cut 6 [(1, .pointer (some ⟨g1, 0, none⟩)), (2, .bool false), (3, .pointer (some ⟨g2, 0, none⟩)), (22, .bool ((((Q.of i.op).kn) && (Q.fits i.d ((Q.of i.op).d))) && (Q.fits i.a ((Q.of i.op).a))))] (fun _ => True) [(g2, [.bool ((Q.of i.op).kn), .bool ((Q.of i.op).d), .bool ((Q.of i.op).a), .bool ((Q.of i.op).b), .int .i64 ((Q.of i.op).kind), .int .i64 (((Q.of i.op).bits : Nat) : Int), .int .u32 ((Q.of i.op).most)]), (g1, [.int .i64 i.op, .int .i64 i.d, .int .i64 i.a, .int .i64 i.b, .int .u32 i.imm])] ?_ ?_
 ·
  generalize hc5 : (((Q.of i.op).kn) && (Q.fits i.d ((Q.of i.op).d))) = b6
  cases b6
  ·
   refine E.sk ?_
   refine E.sk ?_
   refine E.sk ?_
   refine E.sk ?_
   refine E.sk ?_
   refine E.op (.bool false) ?_
   exact E.G.end_pst ⟨by kernel_rfl, by kernel_rfl⟩ (List.Sublist.refl _) (fun _ h => h)
  refine E.op (.pointer (some ⟨g1, 2, none⟩)) ?_
  refine E.li (.int .i64 i.a) 1 rfl rfl ?_
  refine E.op (.pointer (some ⟨g2, 2, none⟩)) ?_
  refine E.li (.bool ((Q.of i.op).a)) 0 rfl rfl ?_
  refine E.G.call (.bool (Q.fits i.a ((Q.of i.op).a))) (fun w h => fits_any i.a ((Q.of i.op).a) w) (fun w _ => by kernel_rfl) (by kernel_rfl) ?_
  refine E.op (.bool (Q.fits i.a ((Q.of i.op).a))) ?_
  exact E.G.end_pst ⟨by kernel_rfl, by kernel_rfl⟩ (List.Sublist.refl _) (fun _ h => h)
 refine E.op (.bool ((((Q.of i.op).kn) && (Q.fits i.d ((Q.of i.op).d))) && (Q.fits i.a ((Q.of i.op).a)))) ?_
 refine E.G.cut 6 [(1, .pointer (some ⟨g1, 0, none⟩)), (2, .bool false), (3, .pointer (some ⟨g2, 0, none⟩)), (29, .bool (((((Q.of i.op).kn) && (Q.fits i.d ((Q.of i.op).d))) && (Q.fits i.a ((Q.of i.op).a))) && (Q.fits i.b ((Q.of i.op).b))))] (fun _ => True) [(g2, [.bool ((Q.of i.op).kn), .bool ((Q.of i.op).d), .bool ((Q.of i.op).a), .bool ((Q.of i.op).b), .int .i64 ((Q.of i.op).kind), .int .i64 (((Q.of i.op).bits : Nat) : Int), .int .u32 ((Q.of i.op).most)]), (g1, [.int .i64 i.op, .int .i64 i.d, .int .i64 i.a, .int .i64 i.b, .int .u32 i.imm])] ?_ ?_
 ·
  generalize hc7 : ((((Q.of i.op).kn) && (Q.fits i.d ((Q.of i.op).d))) && (Q.fits i.a ((Q.of i.op).a))) = b8
  cases b8
  ·
   refine E.sk ?_
   refine E.sk ?_
   refine E.sk ?_
   refine E.sk ?_
   refine E.sk ?_
   refine E.op (.bool false) ?_
   exact E.G.end_pst ⟨by kernel_rfl, by kernel_rfl⟩ (List.Sublist.refl _) (fun _ h => h)
  refine E.op (.pointer (some ⟨g1, 3, none⟩)) ?_
  refine E.li (.int .i64 i.b) 1 rfl rfl ?_
  refine E.op (.pointer (some ⟨g2, 3, none⟩)) ?_
  refine E.li (.bool ((Q.of i.op).b)) 0 rfl rfl ?_
  refine E.G.call (.bool (Q.fits i.b ((Q.of i.op).b))) (fun w h => fits_any i.b ((Q.of i.op).b) w) (fun w _ => by kernel_rfl) (by kernel_rfl) ?_
  refine E.op (.bool (Q.fits i.b ((Q.of i.op).b))) ?_
  exact E.G.end_pst ⟨by kernel_rfl, by kernel_rfl⟩ (List.Sublist.refl _) (fun _ h => h)
 refine E.op (.bool (((((Q.of i.op).kn) && (Q.fits i.d ((Q.of i.op).d))) && (Q.fits i.a ((Q.of i.op).a))) && (Q.fits i.b ((Q.of i.op).b)))) ?_
 refine E.G.cut 5 [(2, .bool false), (35, .bool ((((((Q.of i.op).kn) && (Q.fits i.d ((Q.of i.op).d))) && (Q.fits i.a ((Q.of i.op).a))) && (Q.fits i.b ((Q.of i.op).b))) && (Q.immediate (Q.of i.op) i.imm)))] (fun _ => True) [(g2, [.bool ((Q.of i.op).kn), .bool ((Q.of i.op).d), .bool ((Q.of i.op).a), .bool ((Q.of i.op).b), .int .i64 ((Q.of i.op).kind), .int .i64 (((Q.of i.op).bits : Nat) : Int), .int .u32 ((Q.of i.op).most)]), (g1, [.int .i64 i.op, .int .i64 i.d, .int .i64 i.a, .int .i64 i.b, .int .u32 i.imm])] ?_ ?_
 ·
  generalize hc9 : (((((Q.of i.op).kn) && (Q.fits i.d ((Q.of i.op).d))) && (Q.fits i.a ((Q.of i.op).a))) && (Q.fits i.b ((Q.of i.op).b))) = b10
  cases b10
  ·
   refine E.sk ?_
   refine E.sk ?_
   refine E.sk ?_
   refine E.sk ?_
   refine E.op (.bool false) ?_
   exact E.G.end_pst ⟨by kernel_rfl, by kernel_rfl⟩ (List.Sublist.refl _) (fun _ h => h)
  refine E.li (.agg #[.bool ((Q.of i.op).kn), .bool ((Q.of i.op).d), .bool ((Q.of i.op).a), .bool ((Q.of i.op).b), .int .i64 ((Q.of i.op).kind), .int .i64 (((Q.of i.op).bits : Nat) : Int), .int .u32 ((Q.of i.op).most)]) 0 rfl rfl ?_
  refine E.op (.pointer (some ⟨g1, 4, none⟩)) ?_
  refine E.li (.int .u32 i.imm) 1 rfl rfl ?_
  refine E.G.call (.bool (Q.immediate (Q.of i.op) i.imm)) (fun w h => immediate_any (Q.of i.op) i.imm (Q.of_bits _) hm w) (fun w _ => by kernel_rfl) (by kernel_rfl) ?_
  refine E.op (.bool (Q.immediate (Q.of i.op) i.imm)) ?_
  exact E.G.end_pst ⟨by kernel_rfl, by kernel_rfl⟩ (List.Sublist.refl _) (fun _ h => h)
 refine E.op (.bool ((((((Q.of i.op).kn) && (Q.fits i.d ((Q.of i.op).d))) && (Q.fits i.a ((Q.of i.op).a))) && (Q.fits i.b ((Q.of i.op).b))) && (Q.immediate (Q.of i.op) i.imm))) ?_
 refine E.To.code ?_
 refine E.C.ret (E.To.body (fn := Try.f94) [.bool ((((((Q.of i.op).kn) && (Q.fits i.d ((Q.of i.op).d))) && (Q.fits i.a ((Q.of i.op).a))) && (Q.fits i.b ((Q.of i.op).b))) && (Q.immediate (Q.of i.op) i.imm))] ?_ ?_)
 · exact ⟨⟨by kernel_rfl, by kernel_rfl⟩, trivial⟩
 intro w h
 exact ⟨rfl, h.ch.bel (fun _ h => h.elim)⟩

def Q.encode (i : Q.I) : Int × Int := (bif (!(Q.valid i)) then (0, 12) else ((bits .or .u32 (bits .or .u32 (bits .or .u32 (bits .or .u32 (IntKind.wrap .u32 ((IntKind.wrap .u32 i.op) * 2 ^ 26)) (IntKind.wrap .u32 ((IntKind.wrap .u32 i.d) * 2 ^ 22))) (IntKind.wrap .u32 ((IntKind.wrap .u32 i.a) * 2 ^ 18))) (IntKind.wrap .u32 ((IntKind.wrap .u32 i.b) * 2 ^ 14))) (bits .and .u32 i.imm (IntKind.wrap .u32 ((IntKind.wrap .u32 (1 * 2 ^ (min ((Q.of i.op).bits) 32))) - 1)))), 0))
theorem Encode_any (i : Q.I) (hm : 0 ≤ i.imm ∧ i.imm < 4294967296) (w : World) : Calls Try.prog 78 #[.agg #[.int .i64 i.op, .int .i64 i.d, .int .i64 i.a, .int .i64 i.b, .int .u32 i.imm]] w fun e w' => e = .returned (.tuple #[.int .u32 (((Q.encode i)).1), .int .i64 (((Q.encode i)).2)]) ∧ Bel w w' := by
 refine E.enter (n := 38) (S := fun _ => False) Try.func78 rfl rfl (by kernel_rfl) (E.Hp.start w) ?_
 refine E.sr ?_
 refine E.G.new (fun g => .pointer (some ⟨g, 0, none⟩)) [.int .i64 i.op, .int .i64 i.d, .int .i64 i.a, .int .i64 i.b, .int .u32 i.imm] 47 (fun w => by kernel_rfl) (by kernel_rfl) (fun g1 => ?_)
 refine E.op (.int .u32 0) ?_
 refine E.op (.int .i64 0) ?_
 refine E.To.code ?_
 refine E.C.seq ?_
 refine E.sr ?_
 refine E.li (.agg #[.int .i64 i.op, .int .i64 i.d, .int .i64 i.a, .int .i64 i.b, .int .u32 i.imm]) 0 rfl rfl ?_
 refine E.G.call (.bool (Q.valid i)) (fun w h => Valid_any i hm w) (fun w _ => by kernel_rfl) (by kernel_rfl) ?_
 refine E.op (.bool (!(Q.valid i))) ?_
 refine E.To.code ?_
 refine E.cd (!(Q.valid i)) (fun hc2 => ?_) (fun hc2 => ?_)
 ·
  refine E.sr ?_
  refine E.op (.int .u32 0) ?_
  refine E.op (.int .i64 12) ?_
  refine E.To.code ?_
  refine E.C.ret (E.P.rt (E.To.body (fn := Try.f78) [.int .u32 0, .int .i64 12] ?_ ?_))
  · exact ⟨⟨by kernel_rfl, by kernel_rfl⟩, ⟨by kernel_rfl, by kernel_rfl⟩, trivial⟩
  intro w h
  exact ⟨by show Ending.returned (.tuple #[.int .u32 0, .int .i64 12]) = _; unfold Q.encode; rw [hc2, cond_true] <;> rfl, h.ch.bel (fun _ h => h.elim)⟩
 refine E.C.skip (E.To.code ?_)
 refine E.sr ?_
 refine E.op (.pointer (some ⟨g1, 0, none⟩)) ?_
 refine E.li (.int .i64 i.op) 0 rfl rfl ?_
 refine E.op (.int .u32 (IntKind.wrap .u32 i.op)) ?_
 refine E.op (.int .u32 (IntKind.wrap .u32 ((IntKind.wrap .u32 i.op) * 2 ^ 26))) ?_
 refine E.op (.pointer (some ⟨g1, 1, none⟩)) ?_
 refine E.li (.int .i64 i.d) 0 rfl rfl ?_
 refine E.op (.int .u32 (IntKind.wrap .u32 i.d)) ?_
 refine E.op (.int .u32 (IntKind.wrap .u32 ((IntKind.wrap .u32 i.d) * 2 ^ 22))) ?_
 refine E.op (.int .u32 (bits .or .u32 (IntKind.wrap .u32 ((IntKind.wrap .u32 i.op) * 2 ^ 26)) (IntKind.wrap .u32 ((IntKind.wrap .u32 i.d) * 2 ^ 22)))) ?_
 refine E.op (.pointer (some ⟨g1, 2, none⟩)) ?_
 refine E.li (.int .i64 i.a) 0 rfl rfl ?_
 refine E.op (.int .u32 (IntKind.wrap .u32 i.a)) ?_
 refine E.op (.int .u32 (IntKind.wrap .u32 ((IntKind.wrap .u32 i.a) * 2 ^ 18))) ?_
 refine E.op (.int .u32 (bits .or .u32 (bits .or .u32 (IntKind.wrap .u32 ((IntKind.wrap .u32 i.op) * 2 ^ 26)) (IntKind.wrap .u32 ((IntKind.wrap .u32 i.d) * 2 ^ 22))) (IntKind.wrap .u32 ((IntKind.wrap .u32 i.a) * 2 ^ 18)))) ?_
 refine E.op (.pointer (some ⟨g1, 3, none⟩)) ?_
 refine E.li (.int .i64 i.b) 0 rfl rfl ?_
 refine E.op (.int .u32 (IntKind.wrap .u32 i.b)) ?_
 refine E.op (.int .u32 (IntKind.wrap .u32 ((IntKind.wrap .u32 i.b) * 2 ^ 14))) ?_
 refine E.op (.int .u32 (bits .or .u32 (bits .or .u32 (bits .or .u32 (IntKind.wrap .u32 ((IntKind.wrap .u32 i.op) * 2 ^ 26)) (IntKind.wrap .u32 ((IntKind.wrap .u32 i.d) * 2 ^ 22))) (IntKind.wrap .u32 ((IntKind.wrap .u32 i.a) * 2 ^ 18))) (IntKind.wrap .u32 ((IntKind.wrap .u32 i.b) * 2 ^ 14)))) ?_
 refine E.op (.int .u32 (bits .or .u32 (bits .or .u32 (bits .or .u32 (IntKind.wrap .u32 ((IntKind.wrap .u32 i.op) * 2 ^ 26)) (IntKind.wrap .u32 ((IntKind.wrap .u32 i.d) * 2 ^ 22))) (IntKind.wrap .u32 ((IntKind.wrap .u32 i.a) * 2 ^ 18))) (IntKind.wrap .u32 ((IntKind.wrap .u32 i.b) * 2 ^ 14)))) ?_
 refine E.To.code ?_
 refine E.wk [(1, .pointer (some ⟨g1, 0, none⟩)), (2, .int .u32 0), (3, .int .i64 0), (4, .int .u32 (bits .or .u32 (bits .or .u32 (bits .or .u32 (IntKind.wrap .u32 ((IntKind.wrap .u32 i.op) * 2 ^ 26)) (IntKind.wrap .u32 ((IntKind.wrap .u32 i.d) * 2 ^ 22))) (IntKind.wrap .u32 ((IntKind.wrap .u32 i.a) * 2 ^ 18))) (IntKind.wrap .u32 ((IntKind.wrap .u32 i.b) * 2 ^ 14))))] [(g1, [.int .i64 i.op, .int .i64 i.d, .int .i64 i.a, .int .i64 i.b, .int .u32 i.imm])] (List.Sublist.refl _) ?_
 refine E.C.seq ?_
 refine E.C.quiet (by kernel_rfl) (by kernel_rfl) ?_
 refine E.wo (.int .u32 (bits .or .u32 (bits .or .u32 (bits .or .u32 (IntKind.wrap .u32 ((IntKind.wrap .u32 i.op) * 2 ^ 26)) (IntKind.wrap .u32 ((IntKind.wrap .u32 i.d) * 2 ^ 22))) (IntKind.wrap .u32 ((IntKind.wrap .u32 i.a) * 2 ^ 18))) (IntKind.wrap .u32 ((IntKind.wrap .u32 i.b) * 2 ^ 14)))) ?_
 refine E.wo (.pointer (some ⟨g1, 4, none⟩)) ?_
 refine E.wv (.int .u32 i.imm) (fun w h => E.run_load h 0 rfl rfl (by kernel_rfl)) ?_
 refine E.wo (.pointer (some ⟨g1, 0, none⟩)) ?_
 refine E.wv (.int .i64 i.op) (fun w h => E.run_load h 0 rfl rfl (by kernel_rfl)) ?_
 refine E.W.call (.agg #[.bool ((Q.of i.op).kn), .bool ((Q.of i.op).d), .bool ((Q.of i.op).a), .bool ((Q.of i.op).b), .int .i64 ((Q.of i.op).kind), .int .i64 (((Q.of i.op).bits : Nat) : Int), .int .u32 ((Q.of i.op).most)]) (fun w h => of_any i.op w) (fun w _ => by kernel_rfl) (by kernel_rfl) ?_
 refine E.wo (.int .i64 (((Q.of i.op).bits : Nat) : Int)) ?_
 refine E.wv (.int .u32 (IntKind.wrap .u32 (1 * 2 ^ (min ((Q.of i.op).bits) 32)))) (fun w h => E.shlN (k2 := .i64) 1 ((Q.of i.op).bits) 32 (by rfl) (by kernel_rfl) (by kernel_rfl) w) ?_
 refine E.wo (.int .u32 (IntKind.wrap .u32 ((IntKind.wrap .u32 (1 * 2 ^ (min ((Q.of i.op).bits) 32))) - 1))) ?_
 refine E.wo (.int .u32 (bits .and .u32 i.imm (IntKind.wrap .u32 ((IntKind.wrap .u32 (1 * 2 ^ (min ((Q.of i.op).bits) 32))) - 1)))) ?_
 refine E.wo (.int .u32 (bits .or .u32 (bits .or .u32 (bits .or .u32 (bits .or .u32 (IntKind.wrap .u32 ((IntKind.wrap .u32 i.op) * 2 ^ 26)) (IntKind.wrap .u32 ((IntKind.wrap .u32 i.d) * 2 ^ 22))) (IntKind.wrap .u32 ((IntKind.wrap .u32 i.a) * 2 ^ 18))) (IntKind.wrap .u32 ((IntKind.wrap .u32 i.b) * 2 ^ 14))) (bits .and .u32 i.imm (IntKind.wrap .u32 ((IntKind.wrap .u32 (1 * 2 ^ (min ((Q.of i.op).bits) 32))) - 1))))) ?_
 refine E.wo (.int .u32 (bits .or .u32 (bits .or .u32 (bits .or .u32 (bits .or .u32 (IntKind.wrap .u32 ((IntKind.wrap .u32 i.op) * 2 ^ 26)) (IntKind.wrap .u32 ((IntKind.wrap .u32 i.d) * 2 ^ 22))) (IntKind.wrap .u32 ((IntKind.wrap .u32 i.a) * 2 ^ 18))) (IntKind.wrap .u32 ((IntKind.wrap .u32 i.b) * 2 ^ 14))) (bits .and .u32 i.imm (IntKind.wrap .u32 ((IntKind.wrap .u32 (1 * 2 ^ (min ((Q.of i.op).bits) 32))) - 1))))) ?_
 refine E.wo (.int .i64 0) ?_
 refine E.W.done (E.To.code ?_)
 refine E.wk [(2, .int .u32 (bits .or .u32 (bits .or .u32 (bits .or .u32 (bits .or .u32 (IntKind.wrap .u32 ((IntKind.wrap .u32 i.op) * 2 ^ 26)) (IntKind.wrap .u32 ((IntKind.wrap .u32 i.d) * 2 ^ 22))) (IntKind.wrap .u32 ((IntKind.wrap .u32 i.a) * 2 ^ 18))) (IntKind.wrap .u32 ((IntKind.wrap .u32 i.b) * 2 ^ 14))) (bits .and .u32 i.imm (IntKind.wrap .u32 ((IntKind.wrap .u32 (1 * 2 ^ (min ((Q.of i.op).bits) 32))) - 1))))), (3, .int .i64 0)] [] (List.nil_sublist _) ?_
 refine E.C.ret (E.To.body (fn := Try.f78) [.int .u32 (bits .or .u32 (bits .or .u32 (bits .or .u32 (bits .or .u32 (IntKind.wrap .u32 ((IntKind.wrap .u32 i.op) * 2 ^ 26)) (IntKind.wrap .u32 ((IntKind.wrap .u32 i.d) * 2 ^ 22))) (IntKind.wrap .u32 ((IntKind.wrap .u32 i.a) * 2 ^ 18))) (IntKind.wrap .u32 ((IntKind.wrap .u32 i.b) * 2 ^ 14))) (bits .and .u32 i.imm (IntKind.wrap .u32 ((IntKind.wrap .u32 (1 * 2 ^ (min ((Q.of i.op).bits) 32))) - 1)))), .int .i64 0] ?_ ?_)
 · exact ⟨⟨by kernel_rfl, by kernel_rfl⟩, ⟨by kernel_rfl, by kernel_rfl⟩, trivial⟩
 intro w h
 exact ⟨by show Ending.returned (.tuple #[.int .u32 (bits .or .u32 (bits .or .u32 (bits .or .u32 (bits .or .u32 (IntKind.wrap .u32 ((IntKind.wrap .u32 i.op) * 2 ^ 26)) (IntKind.wrap .u32 ((IntKind.wrap .u32 i.d) * 2 ^ 22))) (IntKind.wrap .u32 ((IntKind.wrap .u32 i.a) * 2 ^ 18))) (IntKind.wrap .u32 ((IntKind.wrap .u32 i.b) * 2 ^ 14))) (bits .and .u32 i.imm (IntKind.wrap .u32 ((IntKind.wrap .u32 (1 * 2 ^ (min ((Q.of i.op).bits) 32))) - 1)))), .int .i64 0]) = _; unfold Q.encode; rw [hc2, cond_false] <;> rfl, h.ch.bel (fun _ h => h.elim)⟩
end Go.Proofs.Ytgbndbljohpnmaa

/- XQd -/
namespace Go.Proofs.Ytgbndbljohpnmaa
set_option linter.unusedVariables false
set_option linter.unusedSimpArgs false
open Go.RowKit
/-- A register field of a word. -/
def Q.field (x : Int) (u : Bool) (m : Nat) : Int := bif (!u) then 0 else (IntKind.wrap .i64 (Int.tmod (Int.fdiv x (2 ^ (min m 32))) 16))
theorem Field_rd {g : Nat} (x : Int) (u : Bool) (m : Nat) : A.Rd Try.prog 76 #[.bool u, .int .i64 ((m : Nat) : Int), .pointer (some ⟨g, 0, none⟩)] [A.blk g [.int .u32 x]] (.int .i64 (Q.field x u m)) := by
 intro w oo aa hh
 refine E.enter (n := 13) (S := fun _ => False) Try.func76 rfl rfl (by kernel_rfl) (A.startY hh) ?_
 refine E.sr ?_
 refine E.op (.int .i64 0) ?_
 refine E.To.code ?_
 refine E.C.seq ?_
 refine E.sr ?_
 refine E.op (.bool u) ?_
 refine E.op (.bool (!u)) ?_
 refine E.To.code ?_
 refine E.cd (!u) (fun hc1 => ?_) (fun hc1 => ?_)
 ·
  refine E.sr ?_
  refine E.op (.int .i64 0) ?_
  refine E.To.code ?_
  refine E.C.ret (E.P.rt (E.To.body (fn := Try.f76) [.int .i64 0] ?_ ?_))
  · exact ⟨⟨by kernel_rfl, by kernel_rfl⟩, trivial⟩
  intro w h
  exact ⟨by show Ending.returned (.int .i64 0) = _; unfold Q.field; rw [hc1, cond_true] <;> rfl, h.ch.bel (fun _ h => h.elim)⟩
 refine E.C.skip (E.To.code ?_)
 refine E.sr ?_
 refine E.vl (.int .u32 x) (fun w h => A.Y.bld h.x (k := 0) (j := 0) rfl (by kernel_rfl) (by kernel_rfl)) ?_
 refine E.op (.int .i64 ((m : Nat) : Int)) ?_
 refine E.vl (.int .u32 (Int.fdiv x (2 ^ (min m 32)))) (fun w h => E.shrN (k2 := .i64) x m 32 (by rfl) (by kernel_rfl) (by kernel_rfl) w) ?_
 refine E.op (.int .u32 (Int.tmod (Int.fdiv x (2 ^ (min m 32))) 16)) ?_
 refine E.op (.int .i64 (IntKind.wrap .i64 (Int.tmod (Int.fdiv x (2 ^ (min m 32))) 16))) ?_
 refine E.op (.int .i64 (IntKind.wrap .i64 (Int.tmod (Int.fdiv x (2 ^ (min m 32))) 16))) ?_
 refine E.To.code ?_
 refine E.wk [(5, .int .i64 (IntKind.wrap .i64 (Int.tmod (Int.fdiv x (2 ^ (min m 32))) 16)))] [] (List.Sublist.refl _) ?_
 refine E.C.ret (E.To.body (fn := Try.f76) [.int .i64 (IntKind.wrap .i64 (Int.tmod (Int.fdiv x (2 ^ (min m 32))) 16))] ?_ ?_)
 · exact ⟨⟨by kernel_rfl, by kernel_rfl⟩, trivial⟩
 intro w h
 exact ⟨by show Ending.returned (.int .i64 (IntKind.wrap .i64 (Int.tmod (Int.fdiv x (2 ^ (min m 32))) 16))) = _; unfold Q.field; rw [hc1, cond_false] <;> rfl, h.ch.bel (fun _ h => h.elim)⟩
theorem Q.sign_bd {n : Int} (h : 0 ≤ n ∧ n < 4294967296) (k : Int) : 0 ≤ W.sign n k ∧ W.sign n k < 4294967296 := W.sign_bd n k h.1 h.2
def Q.dop (x : Int) : Int := IntKind.wrap .i64 (Int.fdiv x (2 ^ 26))
def Q.dimm (x : Int) : Int := bits .and .u32 x (IntKind.wrap .u32 ((IntKind.wrap .u32 (1 * 2 ^ (min ((Q.of (Q.dop x)).bits) 32))) - 1))
def Q.dsg (x : Int) : Int := W.sign (Q.dimm x) (((Q.of (Q.dop x)).bits : Nat) : Int)
def Q.c0 (x : Int) : Q.I := ⟨Q.dop x, Q.field x (Q.of (Q.dop x)).d 22, Q.field x (Q.of (Q.dop x)).a 18, Q.field x (Q.of (Q.dop x)).b 14, Q.dimm x⟩
def Q.c1 (x : Int) : Q.I := ⟨Q.dop x, Q.field x (Q.of (Q.dop x)).d 22, Q.field x (Q.of (Q.dop x)).a 18, Q.field x (Q.of (Q.dop x)).b 14, Q.dsg x⟩
theorem Q.dimm_bd (x : Int) : 0 ≤ Q.dimm x ∧ Q.dimm x < 4294967296 := W.bits_bd _ _ _
theorem Q.dsg_bd (x : Int) : 0 ≤ Q.dsg x ∧ Q.dsg x < 4294967296 := Q.sign_bd (W.bits_bd _ _ _) _
def Q.decode (x : Int) : Q.I × Int := (bif (((Q.of (Q.dop x)).kind) == 1) then (bif ((((Q.encode (Q.c1 x)).2) != 0) || (((Q.encode (Q.c1 x)).1) != x)) then (⟨0, 0, 0, 0, 0⟩, 12) else ((Q.c1 x), 0)) else (bif ((((Q.encode (Q.c0 x)).2) != 0) || (((Q.encode (Q.c0 x)).1) != x)) then (⟨0, 0, 0, 0, 0⟩, 12) else ((Q.c0 x), 0)))
theorem Decode_any (x : Int) (w : World) : Calls Try.prog 70 #[.int .u32 x] w fun e w' => e = .returned (.tuple #[.agg #[.int .i64 ((((Q.decode x)).1).op), .int .i64 ((((Q.decode x)).1).d), .int .i64 ((((Q.decode x)).1).a), .int .i64 ((((Q.decode x)).1).b), .int .u32 ((((Q.decode x)).1).imm)], .int .i64 (((Q.decode x)).2)]) ∧ Bel w w' := by
 have hb := Q.of_bits (Q.dop x)
 refine E.enter (n := 62) (S := fun _ => False) Try.func70 rfl rfl (by kernel_rfl) (E.Hp.start w) ?_
 refine E.sr ?_
 refine E.G.new (fun g => .pointer (some ⟨g, 0, none⟩)) [.int .u32 x] 22 (fun w => by kernel_rfl) (by kernel_rfl) (fun g1 => ?_)
 refine E.G.new (fun g => .pointer (some ⟨g, 0, none⟩)) [.int .i64 0, .int .i64 0, .int .i64 0, .int .i64 0, .int .u32 0] 47 (fun w => by kernel_rfl) (by kernel_rfl) (fun g2 => ?_)
 refine E.op (.int .i64 0) ?_
 refine E.tr ?_
 refine E.li (.int .u32 x) 1 rfl rfl ?_
 refine E.op (.int .u32 (Int.fdiv x (2 ^ 26))) ?_
 refine E.op (.int .i64 (Q.dop x)) ?_
 refine E.vl (.agg #[.int .i64 (Q.dop x), .int .i64 0, .int .i64 0, .int .i64 0, .int .u32 0]) (fun w h => E.run_build #[.int .i64 (Q.dop x), .int .i64 0, .int .i64 0, .int .i64 0, .int .u32 0] (by kernel_rfl) w) ?_
 refine E.G.new (fun g => .pointer (some ⟨g, 0, none⟩)) [.int .i64 0, .int .i64 0, .int .i64 0, .int .i64 0, .int .u32 0] 47 (fun w => by kernel_rfl) (by kernel_rfl) (fun g3 => ?_)
 refine E.st 0 [.int .i64 (Q.dop x), .int .i64 0, .int .i64 0, .int .i64 0, .int .u32 0] rfl rfl ?_
 refine E.tr ?_
 refine E.op (.pointer (some ⟨g3, 0, none⟩)) ?_
 refine E.li (.int .i64 (Q.dop x)) 0 rfl rfl ?_
 refine E.G.call (.agg #[.bool ((Q.of (Q.dop x)).kn), .bool ((Q.of (Q.dop x)).d), .bool ((Q.of (Q.dop x)).a), .bool ((Q.of (Q.dop x)).b), .int .i64 ((Q.of (Q.dop x)).kind), .int .i64 (((Q.of (Q.dop x)).bits : Nat) : Int), .int .u32 ((Q.of (Q.dop x)).most)]) (fun w h => of_any (Q.dop x) w) (fun w _ => by kernel_rfl) (by kernel_rfl) ?_
 refine E.G.new (fun g => .pointer (some ⟨g, 0, none⟩)) [.bool false, .bool false, .bool false, .bool false, .int .i64 0, .int .i64 0, .int .u32 0] 142 (fun w => by kernel_rfl) (by kernel_rfl) (fun g4 => ?_)
 refine E.st 0 [.bool ((Q.of (Q.dop x)).kn), .bool ((Q.of (Q.dop x)).d), .bool ((Q.of (Q.dop x)).a), .bool ((Q.of (Q.dop x)).b), .int .i64 ((Q.of (Q.dop x)).kind), .int .i64 (((Q.of (Q.dop x)).bits : Nat) : Int), .int .u32 ((Q.of (Q.dop x)).most)] rfl rfl ?_
 refine E.To.code ?_
 refine E.wk [(1, .pointer (some ⟨g1, 0, none⟩)), (2, .pointer (some ⟨g2, 0, none⟩)), (3, .int .i64 0), (4, .pointer (some ⟨g3, 0, none⟩)), (5, .pointer (some ⟨g4, 0, none⟩))] [(g4, [.bool ((Q.of (Q.dop x)).kn), .bool ((Q.of (Q.dop x)).d), .bool ((Q.of (Q.dop x)).a), .bool ((Q.of (Q.dop x)).b), .int .i64 ((Q.of (Q.dop x)).kind), .int .i64 (((Q.of (Q.dop x)).bits : Nat) : Int), .int .u32 ((Q.of (Q.dop x)).most)]), (g3, [.int .i64 (Q.dop x), .int .i64 0, .int .i64 0, .int .i64 0, .int .u32 0]), (g2, [.int .i64 0, .int .i64 0, .int .i64 0, .int .i64 0, .int .u32 0]), (g1, [.int .u32 x])] (List.Sublist.refl _) ?_
 refine E.sr ?_
 refine E.op (.func (.func 76) #[] #[.pointer (some ⟨g1, 0, none⟩)]) ?_
 refine E.op (.func (.func 76) #[] #[.pointer (some ⟨g1, 0, none⟩)]) ?_
 refine E.To.code ?_
 refine E.C.seq ?_
 refine E.C.held (E.Hp (fun _ => False) w (fun _ => True) [(g4, [.bool ((Q.of (Q.dop x)).kn), .bool ((Q.of (Q.dop x)).d), .bool ((Q.of (Q.dop x)).a), .bool ((Q.of (Q.dop x)).b), .int .i64 ((Q.of (Q.dop x)).kind), .int .i64 (((Q.of (Q.dop x)).bits : Nat) : Int), .int .u32 ((Q.of (Q.dop x)).most)]), (g2, [.int .i64 0, .int .i64 0, .int .i64 0, .int .i64 0, .int .u32 0]), (g1, [.int .u32 x])]) (by kernel_rfl) ?_
 refine E.tk 0 (.func (.func 76) #[] #[.pointer (some ⟨g1, 0, none⟩)]) rfl (fun w h => h.less (List.Sublist.cons_cons _ (List.Sublist.cons _ (List.Sublist.refl _)))) ?_
 refine E.tk 1 (.pointer (some ⟨g4, 1, none⟩)) rfl (fun w h => h.less (List.Sublist.cons_cons _ (List.Sublist.cons _ (List.Sublist.refl _)))) ?_
 refine E.tj 2 (.bool ((Q.of (Q.dop x)).d)) rfl (fun w h => h.less (List.Sublist.cons_cons _ (List.Sublist.cons _ (List.Sublist.refl _)))) (fun w h => E.run_load h 0 rfl rfl (by kernel_rfl)) ?_
 refine E.tk 4 (.func (.func 76) #[] #[.pointer (some ⟨g1, 0, none⟩)]) rfl (fun w h => h.less (List.Sublist.cons_cons _ (List.Sublist.cons _ (List.Sublist.refl _)))) ?_
 refine E.tk 5 (.pointer (some ⟨g4, 2, none⟩)) rfl (fun w h => h.less (List.Sublist.cons_cons _ (List.Sublist.cons _ (List.Sublist.refl _)))) ?_
 refine E.tj 6 (.bool ((Q.of (Q.dop x)).a)) rfl (fun w h => h.less (List.Sublist.cons_cons _ (List.Sublist.cons _ (List.Sublist.refl _)))) (fun w h => E.run_load h 0 rfl rfl (by kernel_rfl)) ?_
 refine E.tk 8 (.func (.func 76) #[] #[.pointer (some ⟨g1, 0, none⟩)]) rfl (fun w h => h.less (List.Sublist.cons_cons _ (List.Sublist.cons _ (List.Sublist.refl _)))) ?_
 refine E.tk 9 (.pointer (some ⟨g4, 3, none⟩)) rfl (fun w h => h.less (List.Sublist.cons_cons _ (List.Sublist.cons _ (List.Sublist.refl _)))) ?_
 refine E.tj 10 (.bool ((Q.of (Q.dop x)).b)) rfl (fun w h => h.less (List.Sublist.cons_cons _ (List.Sublist.cons _ (List.Sublist.refl _)))) (fun w h => E.run_load h 0 rfl rfl (by kernel_rfl)) ?_
 refine E.al 3 rfl ?_
 refine E.G.call (.int .i64 (Q.field x ((Q.of (Q.dop x)).d) 22)) (fun w h => Field_rd (g := g1) x ((Q.of (Q.dop x)).d) 22 w _ _ (A.of_hp h 3 rfl rfl)) (fun w _ => by kernel_rfl) (by kernel_rfl) ?_
 refine E.H.back (fun w h => h.less (List.Sublist.cons_cons _ (List.Sublist.cons _ (List.Sublist.refl _)))) ?_
 refine E.tk 12 (.pointer (some ⟨g3, 1, none⟩)) rfl (fun w h => h.less (List.Sublist.cons_cons _ (List.Sublist.cons _ (List.Sublist.refl _)))) ?_
 refine E.al 7 rfl ?_
 refine E.G.call (.int .i64 (Q.field x ((Q.of (Q.dop x)).a) 18)) (fun w h => Field_rd (g := g1) x ((Q.of (Q.dop x)).a) 18 w _ _ (A.of_hp h 3 rfl rfl)) (fun w _ => by kernel_rfl) (by kernel_rfl) ?_
 refine E.H.back (fun w h => h.less (List.Sublist.cons_cons _ (List.Sublist.cons _ (List.Sublist.refl _)))) ?_
 refine E.al 11 rfl ?_
 refine E.G.call (.int .i64 (Q.field x ((Q.of (Q.dop x)).b) 14)) (fun w h => Field_rd (g := g1) x ((Q.of (Q.dop x)).b) 14 w _ _ (A.of_hp h 3 rfl rfl)) (fun w _ => by kernel_rfl) (by kernel_rfl) ?_
 refine E.H.back (fun w h => h.less (List.Sublist.cons_cons _ (List.Sublist.cons _ (List.Sublist.refl _)))) ?_
 refine E.al 13 rfl ?_
 refine E.st 1 [.int .i64 (Q.dop x), .int .i64 (Q.field x ((Q.of (Q.dop x)).d) 22), .int .i64 0, .int .i64 0, .int .u32 0] rfl rfl ?_
 refine E.H.back (fun w h => h.less (List.Sublist.cons_cons _ (List.Sublist.cons _ (List.Sublist.refl _)))) ?_
 refine E.tk 14 (.pointer (some ⟨g3, 2, none⟩)) rfl (fun w h => h.less (List.Sublist.cons_cons _ (List.Sublist.cons _ (List.Sublist.refl _)))) ?_
 refine E.al 15 rfl ?_
 refine E.st 1 [.int .i64 (Q.dop x), .int .i64 (Q.field x ((Q.of (Q.dop x)).d) 22), .int .i64 (Q.field x ((Q.of (Q.dop x)).a) 18), .int .i64 0, .int .u32 0] rfl rfl ?_
 refine E.H.back (fun w h => h.less (List.Sublist.cons_cons _ (List.Sublist.cons _ (List.Sublist.refl _)))) ?_
 refine E.tk 16 (.pointer (some ⟨g3, 3, none⟩)) rfl (fun w h => h.less (List.Sublist.cons_cons _ (List.Sublist.cons _ (List.Sublist.refl _)))) ?_
 refine E.al 17 rfl ?_
 refine E.st 1 [.int .i64 (Q.dop x), .int .i64 (Q.field x ((Q.of (Q.dop x)).d) 22), .int .i64 (Q.field x ((Q.of (Q.dop x)).a) 18), .int .i64 (Q.field x ((Q.of (Q.dop x)).b) 14), .int .u32 0] rfl rfl ?_
 refine E.H.back (fun w h => h.less (List.Sublist.cons_cons _ (List.Sublist.cons _ (List.Sublist.refl _)))) ?_
 refine E.H.done (by kernel_rfl) ?_
 refine E.To.code ?_
 refine E.wk [(1, .pointer (some ⟨g1, 0, none⟩)), (2, .pointer (some ⟨g2, 0, none⟩)), (3, .int .i64 0), (4, .pointer (some ⟨g3, 0, none⟩)), (5, .pointer (some ⟨g4, 0, none⟩))] [(g4, [.bool ((Q.of (Q.dop x)).kn), .bool ((Q.of (Q.dop x)).d), .bool ((Q.of (Q.dop x)).a), .bool ((Q.of (Q.dop x)).b), .int .i64 ((Q.of (Q.dop x)).kind), .int .i64 (((Q.of (Q.dop x)).bits : Nat) : Int), .int .u32 ((Q.of (Q.dop x)).most)]), (g3, [.int .i64 (Q.dop x), .int .i64 (Q.field x ((Q.of (Q.dop x)).d) 22), .int .i64 (Q.field x ((Q.of (Q.dop x)).a) 18), .int .i64 (Q.field x ((Q.of (Q.dop x)).b) 14), .int .u32 0]), (g2, [.int .i64 0, .int .i64 0, .int .i64 0, .int .i64 0, .int .u32 0]), (g1, [.int .u32 x])] (List.Sublist.refl _) ?_
 refine E.C.seq ?_
 refine E.C.held (E.Hp (fun _ => False) w (fun _ => True) [(g4, [.bool ((Q.of (Q.dop x)).kn), .bool ((Q.of (Q.dop x)).d), .bool ((Q.of (Q.dop x)).a), .bool ((Q.of (Q.dop x)).b), .int .i64 ((Q.of (Q.dop x)).kind), .int .i64 (((Q.of (Q.dop x)).bits : Nat) : Int), .int .u32 ((Q.of (Q.dop x)).most)]), (g2, [.int .i64 0, .int .i64 0, .int .i64 0, .int .i64 0, .int .u32 0]), (g1, [.int .u32 x])]) (by kernel_rfl) ?_
 refine E.tj 0 (.int .u32 x) rfl (fun w h => h.less (List.Sublist.cons_cons _ (List.Sublist.cons _ (List.Sublist.refl _)))) (fun w h => E.run_load h 2 rfl rfl (by kernel_rfl)) ?_
 refine E.tk 1 (.pointer (some ⟨g4, 5, none⟩)) rfl (fun w h => h.less (List.Sublist.cons_cons _ (List.Sublist.cons _ (List.Sublist.refl _)))) ?_
 refine E.tj 2 (.int .i64 (((Q.of (Q.dop x)).bits : Nat) : Int)) rfl (fun w h => h.less (List.Sublist.cons_cons _ (List.Sublist.cons _ (List.Sublist.refl _)))) (fun w h => E.run_load h 0 rfl rfl (by kernel_rfl)) ?_
 refine E.tj 3 (.int .u32 (IntKind.wrap .u32 (1 * 2 ^ (min ((Q.of (Q.dop x)).bits) 32)))) rfl (fun w h => h.less (List.Sublist.cons_cons _ (List.Sublist.cons _ (List.Sublist.refl _)))) (fun w h => E.shlN (k2 := .i64) 1 ((Q.of (Q.dop x)).bits) 32 (by rfl) (by kernel_rfl) (by kernel_rfl) w) ?_
 refine E.tk 4 (.int .u32 (IntKind.wrap .u32 ((IntKind.wrap .u32 (1 * 2 ^ (min ((Q.of (Q.dop x)).bits) 32))) - 1))) rfl (fun w h => h.less (List.Sublist.cons_cons _ (List.Sublist.cons _ (List.Sublist.refl _)))) ?_
 refine E.tk 5 (.int .u32 (Q.dimm x)) rfl (fun w h => h.less (List.Sublist.cons_cons _ (List.Sublist.cons _ (List.Sublist.refl _)))) ?_
 refine E.tk 6 (.pointer (some ⟨g3, 4, none⟩)) rfl (fun w h => h.less (List.Sublist.cons_cons _ (List.Sublist.cons _ (List.Sublist.refl _)))) ?_
 refine E.al 7 rfl ?_
 refine E.st 1 [.int .i64 (Q.dop x), .int .i64 (Q.field x ((Q.of (Q.dop x)).d) 22), .int .i64 (Q.field x ((Q.of (Q.dop x)).a) 18), .int .i64 (Q.field x ((Q.of (Q.dop x)).b) 14), .int .u32 (Q.dimm x)] rfl rfl ?_
 refine E.H.back (fun w h => h.less (List.Sublist.cons_cons _ (List.Sublist.cons _ (List.Sublist.refl _)))) ?_
 refine E.H.done (by kernel_rfl) ?_
 refine E.To.code ?_
 refine E.C.seq ?_
 refine E.sr ?_
 refine E.op (.pointer (some ⟨g4, 4, none⟩)) ?_
 refine E.li (.int .i64 ((Q.of (Q.dop x)).kind)) 0 rfl rfl ?_
 refine E.op (.bool (((Q.of (Q.dop x)).kind) == 1)) ?_
 refine E.To.code ?_
 refine E.wk [(1, .pointer (some ⟨g1, 0, none⟩)), (2, .pointer (some ⟨g2, 0, none⟩)), (3, .int .i64 0), (4, .pointer (some ⟨g3, 0, none⟩)), (5, .pointer (some ⟨g4, 0, none⟩)), (41, .bool (((Q.of (Q.dop x)).kind) == 1))] [(g4, [.bool ((Q.of (Q.dop x)).kn), .bool ((Q.of (Q.dop x)).d), .bool ((Q.of (Q.dop x)).a), .bool ((Q.of (Q.dop x)).b), .int .i64 ((Q.of (Q.dop x)).kind), .int .i64 (((Q.of (Q.dop x)).bits : Nat) : Int), .int .u32 ((Q.of (Q.dop x)).most)]), (g3, [.int .i64 (Q.dop x), .int .i64 (Q.field x ((Q.of (Q.dop x)).d) 22), .int .i64 (Q.field x ((Q.of (Q.dop x)).a) 18), .int .i64 (Q.field x ((Q.of (Q.dop x)).b) 14), .int .u32 (Q.dimm x)]), (g2, [.int .i64 0, .int .i64 0, .int .i64 0, .int .i64 0, .int .u32 0]), (g1, [.int .u32 x])] (List.Sublist.refl _) ?_
 refine E.cd (((Q.of (Q.dop x)).kind) == 1) (fun hc5 => ?_) (fun hc5 => ?_)
 ·
  refine E.C.region ?_
  refine E.op (.pointer (some ⟨g3, 4, none⟩)) ?_
  refine E.li (.int .u32 (Q.dimm x)) 1 rfl rfl ?_
  refine E.op (.pointer (some ⟨g4, 5, none⟩)) ?_
  refine E.li (.int .i64 (((Q.of (Q.dop x)).bits : Nat) : Int)) 0 rfl rfl ?_
  refine E.G.call (.int .u32 (Q.dsg x)) (fun w h => Sign_any (Q.dimm x) (((Q.of (Q.dop x)).bits : Nat) : Int) (W.bits_bd _ _ _).1 (W.bits_bd _ _ _).2 (by omega) (by omega) w) (fun w _ => by kernel_rfl) (by kernel_rfl) ?_
  refine E.op (.pointer (some ⟨g3, 4, none⟩)) ?_
  refine E.st 1 [.int .i64 (Q.dop x), .int .i64 (Q.field x ((Q.of (Q.dop x)).d) 22), .int .i64 (Q.field x ((Q.of (Q.dop x)).a) 18), .int .i64 (Q.field x ((Q.of (Q.dop x)).b) 14), .int .u32 (Q.dsg x)] rfl rfl ?_
  refine E.To.code ?_
  refine E.wk [(1, .pointer (some ⟨g1, 0, none⟩)), (2, .pointer (some ⟨g2, 0, none⟩)), (3, .int .i64 0), (4, .pointer (some ⟨g3, 0, none⟩))] [(g3, [.int .i64 (Q.dop x), .int .i64 (Q.field x ((Q.of (Q.dop x)).d) 22), .int .i64 (Q.field x ((Q.of (Q.dop x)).a) 18), .int .i64 (Q.field x ((Q.of (Q.dop x)).b) 14), .int .u32 (Q.dsg x)]), (g2, [.int .i64 0, .int .i64 0, .int .i64 0, .int .i64 0, .int .u32 0]), (g1, [.int .u32 x])] (List.Sublist.cons _ (List.Sublist.refl _)) ?_
  refine E.C.seq ?_
  refine E.sr ?_
  refine E.li (.agg #[.int .i64 (Q.dop x), .int .i64 (Q.field x ((Q.of (Q.dop x)).d) 22), .int .i64 (Q.field x ((Q.of (Q.dop x)).a) 18), .int .i64 (Q.field x ((Q.of (Q.dop x)).b) 14), .int .u32 (Q.dsg x)]) 0 rfl rfl ?_
  refine E.G.call (.tuple #[.int .u32 ((Q.encode (Q.c1 x)).1), .int .i64 ((Q.encode (Q.c1 x)).2)]) (fun w h => Encode_any (Q.c1 x) (Q.dsg_bd x) w) (fun w _ => by kernel_rfl) (by kernel_rfl) ?_
  refine E.op (.tuple #[.int .u32 ((Q.encode (Q.c1 x)).1), .int .i64 ((Q.encode (Q.c1 x)).2)]) ?_
  refine E.op (.int .u32 ((Q.encode (Q.c1 x)).1)) ?_
  refine E.op (.int .i64 ((Q.encode (Q.c1 x)).2)) ?_
  refine E.op (.int .u32 ((Q.encode (Q.c1 x)).1)) ?_
  refine E.op (.int .i64 ((Q.encode (Q.c1 x)).2)) ?_
  refine E.tr ?_
  refine E.op (.int .i64 ((Q.encode (Q.c1 x)).2)) ?_
  refine E.op (.bool (((Q.encode (Q.c1 x)).2) != 0)) ?_
  refine E.op (.bool (((Q.encode (Q.c1 x)).2) != 0)) ?_
  refine E.G.cut 4 [(2, .pointer (some ⟨g2, 0, none⟩)), (3, .int .i64 0), (4, .pointer (some ⟨g3, 0, none⟩)), (59, .bool ((((Q.encode (Q.c1 x)).2) != 0) || (((Q.encode (Q.c1 x)).1) != x)))] (fun _ => True) [(g3, [.int .i64 (Q.dop x), .int .i64 (Q.field x ((Q.of (Q.dop x)).d) 22), .int .i64 (Q.field x ((Q.of (Q.dop x)).a) 18), .int .i64 (Q.field x ((Q.of (Q.dop x)).b) 14), .int .u32 (Q.dsg x)]), (g2, [.int .i64 0, .int .i64 0, .int .i64 0, .int .i64 0, .int .u32 0]), (g1, [.int .u32 x])] ?_ ?_
  ·
   generalize hc6 : (((Q.encode (Q.c1 x)).2) != 0) = b7
   cases b7
   ·
    refine E.op (.int .u32 ((Q.encode (Q.c1 x)).1)) ?_
    refine E.li (.int .u32 x) 2 rfl rfl ?_
    refine E.op (.bool (((Q.encode (Q.c1 x)).1) != x)) ?_
    refine E.op (.bool (((Q.encode (Q.c1 x)).1) != x)) ?_
    exact E.G.end_pst ⟨by kernel_rfl, by kernel_rfl⟩ (List.Sublist.refl _) (fun _ h => h)
   refine E.sk ?_
   refine E.sk ?_
   refine E.sk ?_
   refine E.op (.bool true) ?_
   exact E.G.end_pst ⟨by kernel_rfl, by kernel_rfl⟩ (List.Sublist.refl _) (fun _ h => h)
  refine E.To.code ?_
  refine E.cd ((((Q.encode (Q.c1 x)).2) != 0) || (((Q.encode (Q.c1 x)).1) != x)) (fun hc8 => ?_) (fun hc8 => ?_)
  ·
   refine E.sr ?_
   refine E.vl (.agg #[.int .i64 0, .int .i64 0, .int .i64 0, .int .i64 0, .int .u32 0]) (fun w h => E.run_build #[.int .i64 0, .int .i64 0, .int .i64 0, .int .i64 0, .int .u32 0] (by kernel_rfl) w) ?_
   refine E.st 1 [.int .i64 0, .int .i64 0, .int .i64 0, .int .i64 0, .int .u32 0] rfl rfl ?_
   refine E.op (.int .i64 12) ?_
   refine E.To.code ?_
   refine E.C.ret (E.P.rt (E.To.body (fn := Try.f70) [.agg #[.int .i64 0, .int .i64 0, .int .i64 0, .int .i64 0, .int .u32 0], .int .i64 12] ?_ ?_))
   · exact ⟨⟨by kernel_rfl, _, _, 1, _, rfl, rfl, by kernel_rfl⟩, ⟨by kernel_rfl, by kernel_rfl⟩, trivial⟩
   intro w h
   exact ⟨by show Ending.returned (.tuple #[.agg #[.int .i64 0, .int .i64 0, .int .i64 0, .int .i64 0, .int .u32 0], .int .i64 12]) = _; unfold Q.decode; rw [hc5, cond_true, hc8, cond_true] <;> rfl, h.ch.bel (fun _ h => h.elim)⟩
  refine E.C.skip (E.To.code ?_)
  refine E.sr ?_
  refine E.li (.agg #[.int .i64 (Q.dop x), .int .i64 (Q.field x ((Q.of (Q.dop x)).d) 22), .int .i64 (Q.field x ((Q.of (Q.dop x)).a) 18), .int .i64 (Q.field x ((Q.of (Q.dop x)).b) 14), .int .u32 (Q.dsg x)]) 0 rfl rfl ?_
  refine E.st 1 [.int .i64 (Q.dop x), .int .i64 (Q.field x ((Q.of (Q.dop x)).d) 22), .int .i64 (Q.field x ((Q.of (Q.dop x)).a) 18), .int .i64 (Q.field x ((Q.of (Q.dop x)).b) 14), .int .u32 (Q.dsg x)] rfl rfl ?_
  refine E.op (.int .i64 0) ?_
  refine E.To.code ?_
  refine E.C.ret (E.To.body (fn := Try.f70) [.agg #[.int .i64 (Q.dop x), .int .i64 (Q.field x ((Q.of (Q.dop x)).d) 22), .int .i64 (Q.field x ((Q.of (Q.dop x)).a) 18), .int .i64 (Q.field x ((Q.of (Q.dop x)).b) 14), .int .u32 (Q.dsg x)], .int .i64 0] ?_ ?_)
  · exact ⟨⟨by kernel_rfl, _, _, 1, _, rfl, rfl, by kernel_rfl⟩, ⟨by kernel_rfl, by kernel_rfl⟩, trivial⟩
  intro w h
  exact ⟨by show Ending.returned (.tuple #[.agg #[.int .i64 (Q.dop x), .int .i64 (Q.field x ((Q.of (Q.dop x)).d) 22), .int .i64 (Q.field x ((Q.of (Q.dop x)).a) 18), .int .i64 (Q.field x ((Q.of (Q.dop x)).b) 14), .int .u32 (Q.dsg x)], .int .i64 0]) = _; unfold Q.decode; rw [hc5, cond_true, hc8, cond_false] <;> rfl, h.ch.bel (fun _ h => h.elim)⟩
 refine E.C.skip (E.To.code ?_)
 refine E.C.seq ?_
 refine E.sr ?_
 refine E.li (.agg #[.int .i64 (Q.dop x), .int .i64 (Q.field x ((Q.of (Q.dop x)).d) 22), .int .i64 (Q.field x ((Q.of (Q.dop x)).a) 18), .int .i64 (Q.field x ((Q.of (Q.dop x)).b) 14), .int .u32 (Q.dimm x)]) 1 rfl rfl ?_
 refine E.G.call (.tuple #[.int .u32 ((Q.encode (Q.c0 x)).1), .int .i64 ((Q.encode (Q.c0 x)).2)]) (fun w h => Encode_any (Q.c0 x) (Q.dimm_bd x) w) (fun w _ => by kernel_rfl) (by kernel_rfl) ?_
 refine E.op (.tuple #[.int .u32 ((Q.encode (Q.c0 x)).1), .int .i64 ((Q.encode (Q.c0 x)).2)]) ?_
 refine E.op (.int .u32 ((Q.encode (Q.c0 x)).1)) ?_
 refine E.op (.int .i64 ((Q.encode (Q.c0 x)).2)) ?_
 refine E.op (.int .u32 ((Q.encode (Q.c0 x)).1)) ?_
 refine E.op (.int .i64 ((Q.encode (Q.c0 x)).2)) ?_
 refine E.tr ?_
 refine E.op (.int .i64 ((Q.encode (Q.c0 x)).2)) ?_
 refine E.op (.bool (((Q.encode (Q.c0 x)).2) != 0)) ?_
 refine E.op (.bool (((Q.encode (Q.c0 x)).2) != 0)) ?_
 refine E.G.cut 4 [(2, .pointer (some ⟨g2, 0, none⟩)), (3, .int .i64 0), (4, .pointer (some ⟨g3, 0, none⟩)), (59, .bool ((((Q.encode (Q.c0 x)).2) != 0) || (((Q.encode (Q.c0 x)).1) != x)))] (fun _ => True) [(g4, [.bool ((Q.of (Q.dop x)).kn), .bool ((Q.of (Q.dop x)).d), .bool ((Q.of (Q.dop x)).a), .bool ((Q.of (Q.dop x)).b), .int .i64 ((Q.of (Q.dop x)).kind), .int .i64 (((Q.of (Q.dop x)).bits : Nat) : Int), .int .u32 ((Q.of (Q.dop x)).most)]), (g3, [.int .i64 (Q.dop x), .int .i64 (Q.field x ((Q.of (Q.dop x)).d) 22), .int .i64 (Q.field x ((Q.of (Q.dop x)).a) 18), .int .i64 (Q.field x ((Q.of (Q.dop x)).b) 14), .int .u32 (Q.dimm x)]), (g2, [.int .i64 0, .int .i64 0, .int .i64 0, .int .i64 0, .int .u32 0]), (g1, [.int .u32 x])] ?_ ?_
 ·
  generalize hc9 : (((Q.encode (Q.c0 x)).2) != 0) = b10
  cases b10
  ·
   refine E.op (.int .u32 ((Q.encode (Q.c0 x)).1)) ?_
   refine E.li (.int .u32 x) 3 rfl rfl ?_
   refine E.op (.bool (((Q.encode (Q.c0 x)).1) != x)) ?_
   refine E.op (.bool (((Q.encode (Q.c0 x)).1) != x)) ?_
   exact E.G.end_pst ⟨by kernel_rfl, by kernel_rfl⟩ (List.Sublist.refl _) (fun _ h => h)
  refine E.sk ?_
  refine E.sk ?_
  refine E.sk ?_
  refine E.op (.bool true) ?_
  exact E.G.end_pst ⟨by kernel_rfl, by kernel_rfl⟩ (List.Sublist.refl _) (fun _ h => h)
 refine E.To.code ?_
 refine E.cd ((((Q.encode (Q.c0 x)).2) != 0) || (((Q.encode (Q.c0 x)).1) != x)) (fun hc11 => ?_) (fun hc11 => ?_)
 ·
  refine E.sr ?_
  refine E.vl (.agg #[.int .i64 0, .int .i64 0, .int .i64 0, .int .i64 0, .int .u32 0]) (fun w h => E.run_build #[.int .i64 0, .int .i64 0, .int .i64 0, .int .i64 0, .int .u32 0] (by kernel_rfl) w) ?_
  refine E.st 2 [.int .i64 0, .int .i64 0, .int .i64 0, .int .i64 0, .int .u32 0] rfl rfl ?_
  refine E.op (.int .i64 12) ?_
  refine E.To.code ?_
  refine E.C.ret (E.P.rt (E.To.body (fn := Try.f70) [.agg #[.int .i64 0, .int .i64 0, .int .i64 0, .int .i64 0, .int .u32 0], .int .i64 12] ?_ ?_))
  · exact ⟨⟨by kernel_rfl, _, _, 2, _, rfl, rfl, by kernel_rfl⟩, ⟨by kernel_rfl, by kernel_rfl⟩, trivial⟩
  intro w h
  exact ⟨by show Ending.returned (.tuple #[.agg #[.int .i64 0, .int .i64 0, .int .i64 0, .int .i64 0, .int .u32 0], .int .i64 12]) = _; unfold Q.decode; rw [hc5, cond_false, hc11, cond_true] <;> rfl, h.ch.bel (fun _ h => h.elim)⟩
 refine E.C.skip (E.To.code ?_)
 refine E.sr ?_
 refine E.li (.agg #[.int .i64 (Q.dop x), .int .i64 (Q.field x ((Q.of (Q.dop x)).d) 22), .int .i64 (Q.field x ((Q.of (Q.dop x)).a) 18), .int .i64 (Q.field x ((Q.of (Q.dop x)).b) 14), .int .u32 (Q.dimm x)]) 1 rfl rfl ?_
 refine E.st 2 [.int .i64 (Q.dop x), .int .i64 (Q.field x ((Q.of (Q.dop x)).d) 22), .int .i64 (Q.field x ((Q.of (Q.dop x)).a) 18), .int .i64 (Q.field x ((Q.of (Q.dop x)).b) 14), .int .u32 (Q.dimm x)] rfl rfl ?_
 refine E.op (.int .i64 0) ?_
 refine E.To.code ?_
 refine E.wk [(2, .pointer (some ⟨g2, 0, none⟩)), (3, .int .i64 0)] [(g2, [.int .i64 (Q.dop x), .int .i64 (Q.field x ((Q.of (Q.dop x)).d) 22), .int .i64 (Q.field x ((Q.of (Q.dop x)).a) 18), .int .i64 (Q.field x ((Q.of (Q.dop x)).b) 14), .int .u32 (Q.dimm x)])] (List.Sublist.cons _ (List.Sublist.cons _ (List.Sublist.cons_cons _ (List.nil_sublist _)))) ?_
 refine E.C.ret (E.To.body (fn := Try.f70) [.agg #[.int .i64 (Q.dop x), .int .i64 (Q.field x ((Q.of (Q.dop x)).d) 22), .int .i64 (Q.field x ((Q.of (Q.dop x)).a) 18), .int .i64 (Q.field x ((Q.of (Q.dop x)).b) 14), .int .u32 (Q.dimm x)], .int .i64 0] ?_ ?_)
 · exact ⟨⟨by kernel_rfl, _, _, 0, _, rfl, rfl, by kernel_rfl⟩, ⟨by kernel_rfl, by kernel_rfl⟩, trivial⟩
 intro w h
 exact ⟨by show Ending.returned (.tuple #[.agg #[.int .i64 (Q.dop x), .int .i64 (Q.field x ((Q.of (Q.dop x)).d) 22), .int .i64 (Q.field x ((Q.of (Q.dop x)).a) 18), .int .i64 (Q.field x ((Q.of (Q.dop x)).b) 14), .int .u32 (Q.dimm x)], .int .i64 0]) = _; unfold Q.decode; rw [hc5, cond_false, hc11, cond_false] <;> rfl, h.ch.bel (fun _ h => h.elim)⟩
end Go.Proofs.Ytgbndbljohpnmaa

/- XWh -/
namespace Go.Proofs.Ytgbndbljohpnmaa
set_option linter.unusedVariables false
set_option linter.unusedSimpArgs false
open Go.RowKit

theorem byt_extract (s : ByteArray) (m j : Nat) (hj : j < m) : W.byt (s.extract 0 m).data.toList j = W.byt s.data.toList j := by
  unfold W.byt
  have : (s.extract 0 m).data.toList = s.data.toList.take m := by simp [ByteArray.data_extract]
  rw [this]
  simp [List.getD, hj]

theorem bel_bytes (w : World) (e : TypeId) (s : ByteArray) : Bel w (Lib.bytesWorld w e s) :=
  ⟨rfl, rfl, rfl, by rw [Lib.bytesWorld_size]; omega, fun k hk => Lib.bytesWorld_at_old w e s k hk⟩

theorem Get_any (s : ByteArray) (hs : s.size ≤ maxLen) (w : World) :
    Calls Try.prog 71 #[.string s] w fun e w' => e = .returned (.int .u32 (W.get s.data.toList)) ∧ Bel w w' := by
  unfold maxLen at hs
  have hcv : ∀ s' : ByteArray, (convert 9 97 (.string s')).run Try.prog w = .ok (.slice (some ⟨w.heap.size, 0, none⟩) s'.size (grownCap w s'.size 0 5)) (Lib.bytesWorld w 5 s') :=
    fun s' => Lib.run_convert_string_bytes w 9 97 5 s' Try.underlying9 Try.underlying97 Try.underlying5
  have hcell : ∀ (s' : ByteArray) (j : Nat), j < s'.size → (Lib.bytesWorld w 5 s').cell? ⟨w.heap.size, j, none⟩ = some (.int .u8 (W.byt s'.data.toList j)) := fun s' j hj => Lib.bytesWorld_cell w 5 s' j hj
  have hbd := W.byt_bd
  by_cases h4 : s.size ≤ 4
  · have hB : Bel w (Lib.bytesWorld w 5 s) := bel_bytes w _ s
    go_enter Try.func71, Try.ntmps71
    go_wp2
    go_loop [3, 4, 5, 13] (fun n _ _ i => ∃ k : Nat, k ≤ s.size ∧ i = .int .i64 k ∧ n = .int .u32 (W.getK s.data.toList k)) (fun _ _ _ i => s.size - (intOf i).toNat)
    case atStart => exact ⟨0, by omega, rfl, rfl⟩
    case round =>
      obtain ⟨k, hk, rfl, rfl⟩ := hrel
      have hb1 := hbd s.data.toList k
      clear hbd
      by_cases c1 : k < s.size
      · have HK := hid (W.getK_or s.data.toList k (by omega))
        go_wp2
        go_round
        case rel => exact ⟨k + 1, by omega, by go_num, by rw [← HK.out]⟩
        case measure => simp [intOf]; omega
      · have HK := hid (W.getK_eq s.data.toList k (by omega) (Or.inr (by simp; omega)))
        go_wp2
        go_ret
        exact ⟨ret_int (by rw [HK.out]), hB⟩
  · have hB : Bel w (Lib.bytesWorld w 5 (s.extract 0 4)) := bel_bytes w _ _
    have hmin : min 4 s.size = 4 := by omega
    have hcell4 : ∀ j : Nat, j < 4 → (Lib.bytesWorld w 5 (s.extract 0 4)).cell? ⟨w.heap.size, j, none⟩ = some (.int .u8 (W.byt s.data.toList j)) := fun j hj => by
      rw [hcell _ j (by simp; omega), byt_extract s 4 j hj]
    clear hcell
    go_enter Try.func71, Try.ntmps71
    go_wp2
    go_loop [3, 4, 5, 13] (fun n _ _ i => ∃ k : Nat, k ≤ 4 ∧ i = .int .i64 k ∧ n = .int .u32 (W.getK s.data.toList k)) (fun _ _ _ i => 4 - (intOf i).toNat)
    case atStart => exact ⟨0, by omega, rfl, rfl⟩
    case round =>
      obtain ⟨k, hk, rfl, rfl⟩ := hrel
      have hb1 := hbd s.data.toList k
      clear hbd
      by_cases c1 : k < 4
      · have HK := hid (W.getK_or s.data.toList k (by omega))
        go_wp2
        go_round
        case rel => exact ⟨k + 1, by omega, by go_num, by rw [← HK.out]⟩
        case measure => simp [intOf]; omega
      · have HK := hid (W.getK_eq s.data.toList k (by omega) (Or.inl (by omega)))
        go_wp2
        go_ret
        exact ⟨ret_int (by rw [HK.out]), hB⟩
end Go.Proofs.Ytgbndbljohpnmaa

/- XWj -/
namespace Go.Proofs.Ytgbndbljohpnmaa
set_option linter.unusedVariables false
set_option linter.unusedSimpArgs false
open Go.RowKit
def opsEnt : Array MapEntry := #[⟨.int .i64 3, .func (.func 79) #[] #[], 0⟩, ⟨.int .i64 4, .func (.func 80) #[] #[], 1⟩, ⟨.int .i64 5, .func (.func 81) #[] #[], 2⟩, ⟨.int .i64 6, .func (.func 82) #[] #[], 3⟩, ⟨.int .i64 7, .func (.func 83) #[] #[], 4⟩, ⟨.int .i64 8, .func (.func 84) #[] #[], 5⟩, ⟨.int .i64 9, .func (.func 85) #[] #[], 6⟩, ⟨.int .i64 10, .func (.func 86) #[] #[], 7⟩, ⟨.int .i64 11, .func (.func 87) #[] #[], 8⟩, ⟨.int .i64 12, .func (.func 88) #[] #[], 9⟩, ⟨.int .i64 13, .func (.func 89) #[] #[], 10⟩, ⟨.int .i64 14, .func (.func 91) #[] #[], 11⟩, ⟨.int .i64 15, .func (.func 92) #[] #[], 12⟩]
theorem ops_any (w : World) : Calls Try.prog 72 #[] w fun e w' => e = .returned (.map (some w.heap.size)) ∧ w'.heap[w.heap.size]? = some (.map opsEnt 13) ∧ Bel w w' := by
  have hmm := @run_makeMap Try.prog
  have hu : ∀ (es : Array MapEntry) (clock : Nat) (a : Int) (v : Value), Instr.findNow (.int .i64) (.int .i64 a) es.toList 0 = some none →
    (Instr.mapUpdate 133 (.map (some w.heap.size)) (.int .i64 a) v).run Try.prog (w.alloc (.map es clock)) = .ok () (w.alloc (.map (es.push ⟨.int .i64 a, v, clock⟩) (clock + 1))) :=
    fun es clock a v h => run_mapUpdate_new w 133 3 131 .i64 es clock a v Try.underlying133 Try.underlying3 h
  have h0 : (Instr.mapUpdate 133 (.map (some w.heap.size)) (.int .i64 3) (.func (.func 79) #[] #[])).run Try.prog (w.alloc (.map #[] 0)) = .ok () (w.alloc (.map #[⟨.int .i64 3, .func (.func 79) #[] #[], 0⟩] 1)) := hu _ 0 3 _ (by rfl)
  have h1 : (Instr.mapUpdate 133 (.map (some w.heap.size)) (.int .i64 4) (.func (.func 80) #[] #[])).run Try.prog (w.alloc (.map #[⟨.int .i64 3, .func (.func 79) #[] #[], 0⟩] 1)) = .ok () (w.alloc (.map #[⟨.int .i64 3, .func (.func 79) #[] #[], 0⟩, ⟨.int .i64 4, .func (.func 80) #[] #[], 1⟩] 2)) := hu _ 1 4 _ (by rfl)
  have h2 : (Instr.mapUpdate 133 (.map (some w.heap.size)) (.int .i64 5) (.func (.func 81) #[] #[])).run Try.prog (w.alloc (.map #[⟨.int .i64 3, .func (.func 79) #[] #[], 0⟩, ⟨.int .i64 4, .func (.func 80) #[] #[], 1⟩] 2)) = .ok () (w.alloc (.map #[⟨.int .i64 3, .func (.func 79) #[] #[], 0⟩, ⟨.int .i64 4, .func (.func 80) #[] #[], 1⟩, ⟨.int .i64 5, .func (.func 81) #[] #[], 2⟩] 3)) := hu _ 2 5 _ (by rfl)
  have h3 : (Instr.mapUpdate 133 (.map (some w.heap.size)) (.int .i64 6) (.func (.func 82) #[] #[])).run Try.prog (w.alloc (.map #[⟨.int .i64 3, .func (.func 79) #[] #[], 0⟩, ⟨.int .i64 4, .func (.func 80) #[] #[], 1⟩, ⟨.int .i64 5, .func (.func 81) #[] #[], 2⟩] 3)) = .ok () (w.alloc (.map #[⟨.int .i64 3, .func (.func 79) #[] #[], 0⟩, ⟨.int .i64 4, .func (.func 80) #[] #[], 1⟩, ⟨.int .i64 5, .func (.func 81) #[] #[], 2⟩, ⟨.int .i64 6, .func (.func 82) #[] #[], 3⟩] 4)) := hu _ 3 6 _ (by rfl)
  have h4 : (Instr.mapUpdate 133 (.map (some w.heap.size)) (.int .i64 7) (.func (.func 83) #[] #[])).run Try.prog (w.alloc (.map #[⟨.int .i64 3, .func (.func 79) #[] #[], 0⟩, ⟨.int .i64 4, .func (.func 80) #[] #[], 1⟩, ⟨.int .i64 5, .func (.func 81) #[] #[], 2⟩, ⟨.int .i64 6, .func (.func 82) #[] #[], 3⟩] 4)) = .ok () (w.alloc (.map #[⟨.int .i64 3, .func (.func 79) #[] #[], 0⟩, ⟨.int .i64 4, .func (.func 80) #[] #[], 1⟩, ⟨.int .i64 5, .func (.func 81) #[] #[], 2⟩, ⟨.int .i64 6, .func (.func 82) #[] #[], 3⟩, ⟨.int .i64 7, .func (.func 83) #[] #[], 4⟩] 5)) := hu _ 4 7 _ (by rfl)
  have h5 : (Instr.mapUpdate 133 (.map (some w.heap.size)) (.int .i64 8) (.func (.func 84) #[] #[])).run Try.prog (w.alloc (.map #[⟨.int .i64 3, .func (.func 79) #[] #[], 0⟩, ⟨.int .i64 4, .func (.func 80) #[] #[], 1⟩, ⟨.int .i64 5, .func (.func 81) #[] #[], 2⟩, ⟨.int .i64 6, .func (.func 82) #[] #[], 3⟩, ⟨.int .i64 7, .func (.func 83) #[] #[], 4⟩] 5)) = .ok () (w.alloc (.map #[⟨.int .i64 3, .func (.func 79) #[] #[], 0⟩, ⟨.int .i64 4, .func (.func 80) #[] #[], 1⟩, ⟨.int .i64 5, .func (.func 81) #[] #[], 2⟩, ⟨.int .i64 6, .func (.func 82) #[] #[], 3⟩, ⟨.int .i64 7, .func (.func 83) #[] #[], 4⟩, ⟨.int .i64 8, .func (.func 84) #[] #[], 5⟩] 6)) := hu _ 5 8 _ (by rfl)
  have h6 : (Instr.mapUpdate 133 (.map (some w.heap.size)) (.int .i64 9) (.func (.func 85) #[] #[])).run Try.prog (w.alloc (.map #[⟨.int .i64 3, .func (.func 79) #[] #[], 0⟩, ⟨.int .i64 4, .func (.func 80) #[] #[], 1⟩, ⟨.int .i64 5, .func (.func 81) #[] #[], 2⟩, ⟨.int .i64 6, .func (.func 82) #[] #[], 3⟩, ⟨.int .i64 7, .func (.func 83) #[] #[], 4⟩, ⟨.int .i64 8, .func (.func 84) #[] #[], 5⟩] 6)) = .ok () (w.alloc (.map #[⟨.int .i64 3, .func (.func 79) #[] #[], 0⟩, ⟨.int .i64 4, .func (.func 80) #[] #[], 1⟩, ⟨.int .i64 5, .func (.func 81) #[] #[], 2⟩, ⟨.int .i64 6, .func (.func 82) #[] #[], 3⟩, ⟨.int .i64 7, .func (.func 83) #[] #[], 4⟩, ⟨.int .i64 8, .func (.func 84) #[] #[], 5⟩, ⟨.int .i64 9, .func (.func 85) #[] #[], 6⟩] 7)) := hu _ 6 9 _ (by rfl)
  have h7 : (Instr.mapUpdate 133 (.map (some w.heap.size)) (.int .i64 10) (.func (.func 86) #[] #[])).run Try.prog (w.alloc (.map #[⟨.int .i64 3, .func (.func 79) #[] #[], 0⟩, ⟨.int .i64 4, .func (.func 80) #[] #[], 1⟩, ⟨.int .i64 5, .func (.func 81) #[] #[], 2⟩, ⟨.int .i64 6, .func (.func 82) #[] #[], 3⟩, ⟨.int .i64 7, .func (.func 83) #[] #[], 4⟩, ⟨.int .i64 8, .func (.func 84) #[] #[], 5⟩, ⟨.int .i64 9, .func (.func 85) #[] #[], 6⟩] 7)) = .ok () (w.alloc (.map #[⟨.int .i64 3, .func (.func 79) #[] #[], 0⟩, ⟨.int .i64 4, .func (.func 80) #[] #[], 1⟩, ⟨.int .i64 5, .func (.func 81) #[] #[], 2⟩, ⟨.int .i64 6, .func (.func 82) #[] #[], 3⟩, ⟨.int .i64 7, .func (.func 83) #[] #[], 4⟩, ⟨.int .i64 8, .func (.func 84) #[] #[], 5⟩, ⟨.int .i64 9, .func (.func 85) #[] #[], 6⟩, ⟨.int .i64 10, .func (.func 86) #[] #[], 7⟩] 8)) := hu _ 7 10 _ (by rfl)
  have h8 : (Instr.mapUpdate 133 (.map (some w.heap.size)) (.int .i64 11) (.func (.func 87) #[] #[])).run Try.prog (w.alloc (.map #[⟨.int .i64 3, .func (.func 79) #[] #[], 0⟩, ⟨.int .i64 4, .func (.func 80) #[] #[], 1⟩, ⟨.int .i64 5, .func (.func 81) #[] #[], 2⟩, ⟨.int .i64 6, .func (.func 82) #[] #[], 3⟩, ⟨.int .i64 7, .func (.func 83) #[] #[], 4⟩, ⟨.int .i64 8, .func (.func 84) #[] #[], 5⟩, ⟨.int .i64 9, .func (.func 85) #[] #[], 6⟩, ⟨.int .i64 10, .func (.func 86) #[] #[], 7⟩] 8)) = .ok () (w.alloc (.map #[⟨.int .i64 3, .func (.func 79) #[] #[], 0⟩, ⟨.int .i64 4, .func (.func 80) #[] #[], 1⟩, ⟨.int .i64 5, .func (.func 81) #[] #[], 2⟩, ⟨.int .i64 6, .func (.func 82) #[] #[], 3⟩, ⟨.int .i64 7, .func (.func 83) #[] #[], 4⟩, ⟨.int .i64 8, .func (.func 84) #[] #[], 5⟩, ⟨.int .i64 9, .func (.func 85) #[] #[], 6⟩, ⟨.int .i64 10, .func (.func 86) #[] #[], 7⟩, ⟨.int .i64 11, .func (.func 87) #[] #[], 8⟩] 9)) := hu _ 8 11 _ (by rfl)
  have h9 : (Instr.mapUpdate 133 (.map (some w.heap.size)) (.int .i64 12) (.func (.func 88) #[] #[])).run Try.prog (w.alloc (.map #[⟨.int .i64 3, .func (.func 79) #[] #[], 0⟩, ⟨.int .i64 4, .func (.func 80) #[] #[], 1⟩, ⟨.int .i64 5, .func (.func 81) #[] #[], 2⟩, ⟨.int .i64 6, .func (.func 82) #[] #[], 3⟩, ⟨.int .i64 7, .func (.func 83) #[] #[], 4⟩, ⟨.int .i64 8, .func (.func 84) #[] #[], 5⟩, ⟨.int .i64 9, .func (.func 85) #[] #[], 6⟩, ⟨.int .i64 10, .func (.func 86) #[] #[], 7⟩, ⟨.int .i64 11, .func (.func 87) #[] #[], 8⟩] 9)) = .ok () (w.alloc (.map #[⟨.int .i64 3, .func (.func 79) #[] #[], 0⟩, ⟨.int .i64 4, .func (.func 80) #[] #[], 1⟩, ⟨.int .i64 5, .func (.func 81) #[] #[], 2⟩, ⟨.int .i64 6, .func (.func 82) #[] #[], 3⟩, ⟨.int .i64 7, .func (.func 83) #[] #[], 4⟩, ⟨.int .i64 8, .func (.func 84) #[] #[], 5⟩, ⟨.int .i64 9, .func (.func 85) #[] #[], 6⟩, ⟨.int .i64 10, .func (.func 86) #[] #[], 7⟩, ⟨.int .i64 11, .func (.func 87) #[] #[], 8⟩, ⟨.int .i64 12, .func (.func 88) #[] #[], 9⟩] 10)) := hu _ 9 12 _ (by rfl)
  have h10 : (Instr.mapUpdate 133 (.map (some w.heap.size)) (.int .i64 13) (.func (.func 89) #[] #[])).run Try.prog (w.alloc (.map #[⟨.int .i64 3, .func (.func 79) #[] #[], 0⟩, ⟨.int .i64 4, .func (.func 80) #[] #[], 1⟩, ⟨.int .i64 5, .func (.func 81) #[] #[], 2⟩, ⟨.int .i64 6, .func (.func 82) #[] #[], 3⟩, ⟨.int .i64 7, .func (.func 83) #[] #[], 4⟩, ⟨.int .i64 8, .func (.func 84) #[] #[], 5⟩, ⟨.int .i64 9, .func (.func 85) #[] #[], 6⟩, ⟨.int .i64 10, .func (.func 86) #[] #[], 7⟩, ⟨.int .i64 11, .func (.func 87) #[] #[], 8⟩, ⟨.int .i64 12, .func (.func 88) #[] #[], 9⟩] 10)) = .ok () (w.alloc (.map #[⟨.int .i64 3, .func (.func 79) #[] #[], 0⟩, ⟨.int .i64 4, .func (.func 80) #[] #[], 1⟩, ⟨.int .i64 5, .func (.func 81) #[] #[], 2⟩, ⟨.int .i64 6, .func (.func 82) #[] #[], 3⟩, ⟨.int .i64 7, .func (.func 83) #[] #[], 4⟩, ⟨.int .i64 8, .func (.func 84) #[] #[], 5⟩, ⟨.int .i64 9, .func (.func 85) #[] #[], 6⟩, ⟨.int .i64 10, .func (.func 86) #[] #[], 7⟩, ⟨.int .i64 11, .func (.func 87) #[] #[], 8⟩, ⟨.int .i64 12, .func (.func 88) #[] #[], 9⟩, ⟨.int .i64 13, .func (.func 89) #[] #[], 10⟩] 11)) := hu _ 10 13 _ (by rfl)
  have h11 : (Instr.mapUpdate 133 (.map (some w.heap.size)) (.int .i64 14) (.func (.func 91) #[] #[])).run Try.prog (w.alloc (.map #[⟨.int .i64 3, .func (.func 79) #[] #[], 0⟩, ⟨.int .i64 4, .func (.func 80) #[] #[], 1⟩, ⟨.int .i64 5, .func (.func 81) #[] #[], 2⟩, ⟨.int .i64 6, .func (.func 82) #[] #[], 3⟩, ⟨.int .i64 7, .func (.func 83) #[] #[], 4⟩, ⟨.int .i64 8, .func (.func 84) #[] #[], 5⟩, ⟨.int .i64 9, .func (.func 85) #[] #[], 6⟩, ⟨.int .i64 10, .func (.func 86) #[] #[], 7⟩, ⟨.int .i64 11, .func (.func 87) #[] #[], 8⟩, ⟨.int .i64 12, .func (.func 88) #[] #[], 9⟩, ⟨.int .i64 13, .func (.func 89) #[] #[], 10⟩] 11)) = .ok () (w.alloc (.map #[⟨.int .i64 3, .func (.func 79) #[] #[], 0⟩, ⟨.int .i64 4, .func (.func 80) #[] #[], 1⟩, ⟨.int .i64 5, .func (.func 81) #[] #[], 2⟩, ⟨.int .i64 6, .func (.func 82) #[] #[], 3⟩, ⟨.int .i64 7, .func (.func 83) #[] #[], 4⟩, ⟨.int .i64 8, .func (.func 84) #[] #[], 5⟩, ⟨.int .i64 9, .func (.func 85) #[] #[], 6⟩, ⟨.int .i64 10, .func (.func 86) #[] #[], 7⟩, ⟨.int .i64 11, .func (.func 87) #[] #[], 8⟩, ⟨.int .i64 12, .func (.func 88) #[] #[], 9⟩, ⟨.int .i64 13, .func (.func 89) #[] #[], 10⟩, ⟨.int .i64 14, .func (.func 91) #[] #[], 11⟩] 12)) := hu _ 11 14 _ (by rfl)
  have h12 : (Instr.mapUpdate 133 (.map (some w.heap.size)) (.int .i64 15) (.func (.func 92) #[] #[])).run Try.prog (w.alloc (.map #[⟨.int .i64 3, .func (.func 79) #[] #[], 0⟩, ⟨.int .i64 4, .func (.func 80) #[] #[], 1⟩, ⟨.int .i64 5, .func (.func 81) #[] #[], 2⟩, ⟨.int .i64 6, .func (.func 82) #[] #[], 3⟩, ⟨.int .i64 7, .func (.func 83) #[] #[], 4⟩, ⟨.int .i64 8, .func (.func 84) #[] #[], 5⟩, ⟨.int .i64 9, .func (.func 85) #[] #[], 6⟩, ⟨.int .i64 10, .func (.func 86) #[] #[], 7⟩, ⟨.int .i64 11, .func (.func 87) #[] #[], 8⟩, ⟨.int .i64 12, .func (.func 88) #[] #[], 9⟩, ⟨.int .i64 13, .func (.func 89) #[] #[], 10⟩, ⟨.int .i64 14, .func (.func 91) #[] #[], 11⟩] 12)) = .ok () (w.alloc (.map #[⟨.int .i64 3, .func (.func 79) #[] #[], 0⟩, ⟨.int .i64 4, .func (.func 80) #[] #[], 1⟩, ⟨.int .i64 5, .func (.func 81) #[] #[], 2⟩, ⟨.int .i64 6, .func (.func 82) #[] #[], 3⟩, ⟨.int .i64 7, .func (.func 83) #[] #[], 4⟩, ⟨.int .i64 8, .func (.func 84) #[] #[], 5⟩, ⟨.int .i64 9, .func (.func 85) #[] #[], 6⟩, ⟨.int .i64 10, .func (.func 86) #[] #[], 7⟩, ⟨.int .i64 11, .func (.func 87) #[] #[], 8⟩, ⟨.int .i64 12, .func (.func 88) #[] #[], 9⟩, ⟨.int .i64 13, .func (.func 89) #[] #[], 10⟩, ⟨.int .i64 14, .func (.func 91) #[] #[], 11⟩, ⟨.int .i64 15, .func (.func 92) #[] #[], 12⟩] 13)) := hu _ 12 15 _ (by rfl)
  clear hu
  go_enter Try.func72, Try.ntmps72
  go_wp2
  go_ret
  exact ⟨rfl, (MapKept.heap_alloc w _).1, (by repeat (first | assumption | exact Bel.refl _ | refine Bel.drew ?_ | refine Bel.drewN ?_ _ | refine Bel.alloc ?_ _ | (refine Bel.trans ?_ (by assumption)) | (refine Bel.then ?_ (by assumption) (by intro x hx; first | (subst hx; simp; done) | (simp at *; omega)))))⟩
theorem wbit_any (b : Bool) (w : World) : Calls Try.prog 90 #[.bool b] w fun e w' => e = .returned (.int .u32 (W.b01 b)) ∧ Bel w w' := by
  cases b
  · go_enter Try.func90, Try.ntmps90
    go_wp2
    go_ret
    exact ⟨rfl, (by repeat (first | assumption | exact Bel.refl _ | refine Bel.drew ?_ | refine Bel.drewN ?_ _ | refine Bel.alloc ?_ _ | (refine Bel.trans ?_ (by assumption)) | (refine Bel.then ?_ (by assumption) (by intro x hx; first | (subst hx; simp; done) | (simp at *; omega)))))⟩
  · go_enter Try.func90, Try.ntmps90
    go_wp2
    go_ret
    exact ⟨rfl, (by repeat (first | assumption | exact Bel.refl _ | refine Bel.drew ?_ | refine Bel.drewN ?_ _ | refine Bel.alloc ?_ _ | (refine Bel.trans ?_ (by assumption)) | (refine Bel.then ?_ (by assumption) (by intro x hx; first | (subst hx; simp; done) | (simp at *; omega)))))⟩
theorem clo_3 (a b : Int) (ha : 0 ≤ a) (ha' : a < 4294967296) (hb : 0 ≤ b) (hb' : b < 4294967296) (w : World) :
    Calls Try.prog 79 #[.int .u32 a, .int .u32 b] w fun e w' => e = .returned (.int .u32 (W.op 3 a b)) ∧ Bel w w' := by
  go_enter Try.func79, Try.ntmps79
  go_wp2
  go_ret
  exact ⟨ret_int (by rw [W.op_3]), (by repeat (first | assumption | exact Bel.refl _ | refine Bel.drew ?_ | refine Bel.drewN ?_ _ | refine Bel.alloc ?_ _ | (refine Bel.trans ?_ (by assumption)) | (refine Bel.then ?_ (by assumption) (by intro x hx; first | (subst hx; simp; done) | (simp at *; omega)))))⟩
theorem clo_4 (a b : Int) (ha : 0 ≤ a) (ha' : a < 4294967296) (hb : 0 ≤ b) (hb' : b < 4294967296) (w : World) :
    Calls Try.prog 80 #[.int .u32 a, .int .u32 b] w fun e w' => e = .returned (.int .u32 (W.op 4 a b)) ∧ Bel w w' := by
  go_enter Try.func80, Try.ntmps80
  go_wp2
  go_ret
  exact ⟨ret_int (by rw [W.op_4]), (by repeat (first | assumption | exact Bel.refl _ | refine Bel.drew ?_ | refine Bel.drewN ?_ _ | refine Bel.alloc ?_ _ | (refine Bel.trans ?_ (by assumption)) | (refine Bel.then ?_ (by assumption) (by intro x hx; first | (subst hx; simp; done) | (simp at *; omega)))))⟩
theorem clo_5 (a b : Int) (ha : 0 ≤ a) (ha' : a < 4294967296) (hb : 0 ≤ b) (hb' : b < 4294967296) (w : World) :
    Calls Try.prog 81 #[.int .u32 a, .int .u32 b] w fun e w' => e = .returned (.int .u32 (W.op 5 a b)) ∧ Bel w w' := by
  go_enter Try.func81, Try.ntmps81
  go_wp2
  go_ret
  exact ⟨ret_int (by rw [W.op_5]), (by repeat (first | assumption | exact Bel.refl _ | refine Bel.drew ?_ | refine Bel.drewN ?_ _ | refine Bel.alloc ?_ _ | (refine Bel.trans ?_ (by assumption)) | (refine Bel.then ?_ (by assumption) (by intro x hx; first | (subst hx; simp; done) | (simp at *; omega)))))⟩
theorem clo_6 (a b : Int) (ha : 0 ≤ a) (ha' : a < 4294967296) (hb : 0 ≤ b) (hb' : b < 4294967296) (w : World) :
    Calls Try.prog 82 #[.int .u32 a, .int .u32 b] w fun e w' => e = .returned (.int .u32 (W.op 6 a b)) ∧ Bel w w' := by
  go_enter Try.func82, Try.ntmps82
  go_wp2
  go_ret
  exact ⟨ret_int (by rw [W.op_6]), (by repeat (first | assumption | exact Bel.refl _ | refine Bel.drew ?_ | refine Bel.drewN ?_ _ | refine Bel.alloc ?_ _ | (refine Bel.trans ?_ (by assumption)) | (refine Bel.then ?_ (by assumption) (by intro x hx; first | (subst hx; simp; done) | (simp at *; omega)))))⟩
theorem clo_7 (a b : Int) (ha : 0 ≤ a) (ha' : a < 4294967296) (hb : 0 ≤ b) (hb' : b < 4294967296) (w : World) :
    Calls Try.prog 83 #[.int .u32 a, .int .u32 b] w fun e w' => e = .returned (.int .u32 (W.op 7 a b)) ∧ Bel w w' := by
  go_enter Try.func83, Try.ntmps83
  go_wp2
  go_ret
  exact ⟨ret_int (by rw [W.op_7]), (by repeat (first | assumption | exact Bel.refl _ | refine Bel.drew ?_ | refine Bel.drewN ?_ _ | refine Bel.alloc ?_ _ | (refine Bel.trans ?_ (by assumption)) | (refine Bel.then ?_ (by assumption) (by intro x hx; first | (subst hx; simp; done) | (simp at *; omega)))))⟩
theorem clo_8 (a b : Int) (ha : 0 ≤ a) (ha' : a < 4294967296) (hb : 0 ≤ b) (hb' : b < 4294967296) (w : World) :
    Calls Try.prog 84 #[.int .u32 a, .int .u32 b] w fun e w' => e = .returned (.int .u32 (W.op 8 a b)) ∧ Bel w w' := by
  have hd : 0 ≤ b % 32 ∧ b % 32 < 32 := by omega
  go_enter Try.func84, Try.ntmps84
  go_wp2
  go_ret
  exact ⟨ret_int (by rw [W.op_8]), (by repeat (first | assumption | exact Bel.refl _ | refine Bel.drew ?_ | refine Bel.drewN ?_ _ | refine Bel.alloc ?_ _ | (refine Bel.trans ?_ (by assumption)) | (refine Bel.then ?_ (by assumption) (by intro x hx; first | (subst hx; simp; done) | (simp at *; omega)))))⟩
theorem clo_9 (a b : Int) (ha : 0 ≤ a) (ha' : a < 4294967296) (hb : 0 ≤ b) (hb' : b < 4294967296) (w : World) :
    Calls Try.prog 85 #[.int .u32 a, .int .u32 b] w fun e w' => e = .returned (.int .u32 (W.op 9 a b)) ∧ Bel w w' := by
  have hd : 0 ≤ b % 32 ∧ b % 32 < 32 := by omega
  go_enter Try.func85, Try.ntmps85
  go_wp2
  go_ret
  exact ⟨ret_int (by rw [W.op_9]), (by repeat (first | assumption | exact Bel.refl _ | refine Bel.drew ?_ | refine Bel.drewN ?_ _ | refine Bel.alloc ?_ _ | (refine Bel.trans ?_ (by assumption)) | (refine Bel.then ?_ (by assumption) (by intro x hx; first | (subst hx; simp; done) | (simp at *; omega)))))⟩
theorem clo_10 (a b : Int) (ha : 0 ≤ a) (ha' : a < 4294967296) (hb : 0 ≤ b) (hb' : b < 4294967296) (w : World) :
    Calls Try.prog 86 #[.int .u32 a, .int .u32 b] w fun e w' => e = .returned (.int .u32 (W.op 10 a b)) ∧ Bel w w' := by
  have hd : 0 ≤ b % 32 ∧ b % 32 < 32 := by omega
  have hs := W.sg_wrap a ha ha'
  go_enter Try.func86, Try.ntmps86
  go_wp2
  go_ret
  exact ⟨ret_int (by rw [W.op_10]), (by repeat (first | assumption | exact Bel.refl _ | refine Bel.drew ?_ | refine Bel.drewN ?_ _ | refine Bel.alloc ?_ _ | (refine Bel.trans ?_ (by assumption)) | (refine Bel.then ?_ (by assumption) (by intro x hx; first | (subst hx; simp; done) | (simp at *; omega)))))⟩
theorem clo_11 (a b : Int) (ha : 0 ≤ a) (ha' : a < 4294967296) (hb : 0 ≤ b) (hb' : b < 4294967296) (w : World) :
    Calls Try.prog 87 #[.int .u32 a, .int .u32 b] w fun e w' => e = .returned (.int .u32 (W.op 11 a b)) ∧ Bel w w' := by
  go_enter Try.func87, Try.ntmps87
  go_wp2
  go_ret
  exact ⟨ret_int (by rw [W.op_11]), (by repeat (first | assumption | exact Bel.refl _ | refine Bel.drew ?_ | refine Bel.drewN ?_ _ | refine Bel.alloc ?_ _ | (refine Bel.trans ?_ (by assumption)) | (refine Bel.then ?_ (by assumption) (by intro x hx; first | (subst hx; simp; done) | (simp at *; omega)))))⟩
theorem clo_12 (a b : Int) (ha : 0 ≤ a) (ha' : a < 4294967296) (hb : 0 ≤ b) (hb' : b < 4294967296) (w : World) :
    Calls Try.prog 88 #[.int .u32 a, .int .u32 b] w fun e w' => e = .returned (.int .u32 (W.op 12 a b)) ∧ Bel w w' := by
  by_cases h : b = 0
  · subst h
    go_enter Try.func88, Try.ntmps88
    go_wp2
    go_ret
    exact ⟨ret_int (by rw [W.op_12]; simp), (by repeat (first | assumption | exact Bel.refl _ | refine Bel.drew ?_ | refine Bel.drewN ?_ _ | refine Bel.alloc ?_ _ | (refine Bel.trans ?_ (by assumption)) | (refine Bel.then ?_ (by assumption) (by intro x hx; first | (subst hx; simp; done) | (simp at *; omega)))))⟩
  · have h0 : (b == 0) = false := by simp [h]
    go_enter Try.func88, Try.ntmps88
    go_wp2
    go_ret
    exact ⟨ret_int (by rw [W.op_12]), (by repeat (first | assumption | exact Bel.refl _ | refine Bel.drew ?_ | refine Bel.drewN ?_ _ | refine Bel.alloc ?_ _ | (refine Bel.trans ?_ (by assumption)) | (refine Bel.then ?_ (by assumption) (by intro x hx; first | (subst hx; simp; done) | (simp at *; omega)))))⟩
theorem clo_13 (a b : Int) (ha : 0 ≤ a) (ha' : a < 4294967296) (hb : 0 ≤ b) (hb' : b < 4294967296) (w : World) :
    Calls Try.prog 89 #[.int .u32 a, .int .u32 b] w fun e w' => e = .returned (.int .u32 (W.op 13 a b)) ∧ Bel w w' := by
  go_enter Try.func89, Try.ntmps89
  go_wp2_with (go_at_call 90; refine (wbit_any _ _).mono ?_; rintro e w' ⟨rfl, hb⟩)
  go_ret
  exact ⟨ret_int (by rw [W.op_13]), (by repeat (first | assumption | exact Bel.refl _ | refine Bel.drew ?_ | refine Bel.drewN ?_ _ | refine Bel.alloc ?_ _ | (refine Bel.trans ?_ (by assumption)) | (refine Bel.then ?_ (by assumption) (by intro x hx; first | (subst hx; simp; done) | (simp at *; omega)))))⟩
theorem clo_14 (a b : Int) (ha : 0 ≤ a) (ha' : a < 4294967296) (hb : 0 ≤ b) (hb' : b < 4294967296) (w : World) :
    Calls Try.prog 91 #[.int .u32 a, .int .u32 b] w fun e w' => e = .returned (.int .u32 (W.op 14 a b)) ∧ Bel w w' := by
  go_enter Try.func91, Try.ntmps91
  go_wp2_with (go_at_call 90; refine (wbit_any _ _).mono ?_; rintro e w' ⟨rfl, hb⟩)
  go_ret
  exact ⟨ret_int (by rw [W.op_14]), (by repeat (first | assumption | exact Bel.refl _ | refine Bel.drew ?_ | refine Bel.drewN ?_ _ | refine Bel.alloc ?_ _ | (refine Bel.trans ?_ (by assumption)) | (refine Bel.then ?_ (by assumption) (by intro x hx; first | (subst hx; simp; done) | (simp at *; omega)))))⟩
theorem clo_15 (a b : Int) (ha : 0 ≤ a) (ha' : a < 4294967296) (hb : 0 ≤ b) (hb' : b < 4294967296) (w : World) :
    Calls Try.prog 92 #[.int .u32 a, .int .u32 b] w fun e w' => e = .returned (.int .u32 (W.op 15 a b)) ∧ Bel w w' := by
  have hs := W.sg_wrap a ha ha'
  have hs' := W.sg_wrap b hb hb'
  go_enter Try.func92, Try.ntmps92
  go_wp2_with (go_at_call 90; refine (wbit_any _ _).mono ?_; rintro e w' ⟨rfl, hb⟩)
  go_ret
  exact ⟨ret_int (by rw [W.op_15]), (by repeat (first | assumption | exact Bel.refl _ | refine Bel.drew ?_ | refine Bel.drewN ?_ _ | refine Bel.alloc ?_ _ | (refine Bel.trans ?_ (by assumption)) | (refine Bel.then ?_ (by assumption) (by intro x hx; first | (subst hx; simp; done) | (simp at *; omega)))))⟩
theorem Op_3 (a b : Int) (ha : 0 ≤ a) (ha' : a < 4294967296) (hb : 0 ≤ b) (hb' : b < 4294967296) (w : World) :
    Calls Try.prog 61 #[.int .i64 3, .int .u32 a, .int .u32 b] w fun e w' => e = .returned (.int .u32 (W.op 3 a b)) ∧ Bel w w' := by
  have hl : ∀ w1 : World, w1.heap[w.heap.size]? = some (.map opsEnt 13) → (Instr.lookup 133 (.map (some w.heap.size)) (.int .i64 3) true).run Try.prog w1 = .ok (.tuple #[.func (.func 79) #[] #[], .bool true]) w1 :=
    fun w1 h => run_lookup_hit w1 133 3 131 .i64 _ opsEnt 13 3 _ 0 Try.underlying133 Try.underlying3 h rfl
  go_enter Try.func61, Try.ntmps61
  go_wp2_with (first
    | (go_at_call 72; refine (ops_any _).mono ?_; rintro e w1 ⟨rfl, hm, hb1⟩)
    | (go_at_call 79; refine (clo_3 a b ha ha' hb hb' _).mono ?_; rintro e w2 ⟨rfl, hb2⟩))
  go_ret
  exact ⟨rfl, (by repeat (first | assumption | exact Bel.refl _ | refine Bel.drew ?_ | refine Bel.drewN ?_ _ | refine Bel.alloc ?_ _ | (refine Bel.trans ?_ (by assumption)) | (refine Bel.then ?_ (by assumption) (by intro x hx; first | (subst hx; simp; done) | (simp at *; omega)))))⟩
theorem Op_4 (a b : Int) (ha : 0 ≤ a) (ha' : a < 4294967296) (hb : 0 ≤ b) (hb' : b < 4294967296) (w : World) :
    Calls Try.prog 61 #[.int .i64 4, .int .u32 a, .int .u32 b] w fun e w' => e = .returned (.int .u32 (W.op 4 a b)) ∧ Bel w w' := by
  have hl : ∀ w1 : World, w1.heap[w.heap.size]? = some (.map opsEnt 13) → (Instr.lookup 133 (.map (some w.heap.size)) (.int .i64 4) true).run Try.prog w1 = .ok (.tuple #[.func (.func 80) #[] #[], .bool true]) w1 :=
    fun w1 h => run_lookup_hit w1 133 3 131 .i64 _ opsEnt 13 4 _ 1 Try.underlying133 Try.underlying3 h rfl
  go_enter Try.func61, Try.ntmps61
  go_wp2_with (first
    | (go_at_call 72; refine (ops_any _).mono ?_; rintro e w1 ⟨rfl, hm, hb1⟩)
    | (go_at_call 80; refine (clo_4 a b ha ha' hb hb' _).mono ?_; rintro e w2 ⟨rfl, hb2⟩))
  go_ret
  exact ⟨rfl, (by repeat (first | assumption | exact Bel.refl _ | refine Bel.drew ?_ | refine Bel.drewN ?_ _ | refine Bel.alloc ?_ _ | (refine Bel.trans ?_ (by assumption)) | (refine Bel.then ?_ (by assumption) (by intro x hx; first | (subst hx; simp; done) | (simp at *; omega)))))⟩
theorem Op_5 (a b : Int) (ha : 0 ≤ a) (ha' : a < 4294967296) (hb : 0 ≤ b) (hb' : b < 4294967296) (w : World) :
    Calls Try.prog 61 #[.int .i64 5, .int .u32 a, .int .u32 b] w fun e w' => e = .returned (.int .u32 (W.op 5 a b)) ∧ Bel w w' := by
  have hl : ∀ w1 : World, w1.heap[w.heap.size]? = some (.map opsEnt 13) → (Instr.lookup 133 (.map (some w.heap.size)) (.int .i64 5) true).run Try.prog w1 = .ok (.tuple #[.func (.func 81) #[] #[], .bool true]) w1 :=
    fun w1 h => run_lookup_hit w1 133 3 131 .i64 _ opsEnt 13 5 _ 2 Try.underlying133 Try.underlying3 h rfl
  go_enter Try.func61, Try.ntmps61
  go_wp2_with (first
    | (go_at_call 72; refine (ops_any _).mono ?_; rintro e w1 ⟨rfl, hm, hb1⟩)
    | (go_at_call 81; refine (clo_5 a b ha ha' hb hb' _).mono ?_; rintro e w2 ⟨rfl, hb2⟩))
  go_ret
  exact ⟨rfl, (by repeat (first | assumption | exact Bel.refl _ | refine Bel.drew ?_ | refine Bel.drewN ?_ _ | refine Bel.alloc ?_ _ | (refine Bel.trans ?_ (by assumption)) | (refine Bel.then ?_ (by assumption) (by intro x hx; first | (subst hx; simp; done) | (simp at *; omega)))))⟩
theorem Op_6 (a b : Int) (ha : 0 ≤ a) (ha' : a < 4294967296) (hb : 0 ≤ b) (hb' : b < 4294967296) (w : World) :
    Calls Try.prog 61 #[.int .i64 6, .int .u32 a, .int .u32 b] w fun e w' => e = .returned (.int .u32 (W.op 6 a b)) ∧ Bel w w' := by
  have hl : ∀ w1 : World, w1.heap[w.heap.size]? = some (.map opsEnt 13) → (Instr.lookup 133 (.map (some w.heap.size)) (.int .i64 6) true).run Try.prog w1 = .ok (.tuple #[.func (.func 82) #[] #[], .bool true]) w1 :=
    fun w1 h => run_lookup_hit w1 133 3 131 .i64 _ opsEnt 13 6 _ 3 Try.underlying133 Try.underlying3 h rfl
  go_enter Try.func61, Try.ntmps61
  go_wp2_with (first
    | (go_at_call 72; refine (ops_any _).mono ?_; rintro e w1 ⟨rfl, hm, hb1⟩)
    | (go_at_call 82; refine (clo_6 a b ha ha' hb hb' _).mono ?_; rintro e w2 ⟨rfl, hb2⟩))
  go_ret
  exact ⟨rfl, (by repeat (first | assumption | exact Bel.refl _ | refine Bel.drew ?_ | refine Bel.drewN ?_ _ | refine Bel.alloc ?_ _ | (refine Bel.trans ?_ (by assumption)) | (refine Bel.then ?_ (by assumption) (by intro x hx; first | (subst hx; simp; done) | (simp at *; omega)))))⟩
theorem Op_7 (a b : Int) (ha : 0 ≤ a) (ha' : a < 4294967296) (hb : 0 ≤ b) (hb' : b < 4294967296) (w : World) :
    Calls Try.prog 61 #[.int .i64 7, .int .u32 a, .int .u32 b] w fun e w' => e = .returned (.int .u32 (W.op 7 a b)) ∧ Bel w w' := by
  have hl : ∀ w1 : World, w1.heap[w.heap.size]? = some (.map opsEnt 13) → (Instr.lookup 133 (.map (some w.heap.size)) (.int .i64 7) true).run Try.prog w1 = .ok (.tuple #[.func (.func 83) #[] #[], .bool true]) w1 :=
    fun w1 h => run_lookup_hit w1 133 3 131 .i64 _ opsEnt 13 7 _ 4 Try.underlying133 Try.underlying3 h rfl
  go_enter Try.func61, Try.ntmps61
  go_wp2_with (first
    | (go_at_call 72; refine (ops_any _).mono ?_; rintro e w1 ⟨rfl, hm, hb1⟩)
    | (go_at_call 83; refine (clo_7 a b ha ha' hb hb' _).mono ?_; rintro e w2 ⟨rfl, hb2⟩))
  go_ret
  exact ⟨rfl, (by repeat (first | assumption | exact Bel.refl _ | refine Bel.drew ?_ | refine Bel.drewN ?_ _ | refine Bel.alloc ?_ _ | (refine Bel.trans ?_ (by assumption)) | (refine Bel.then ?_ (by assumption) (by intro x hx; first | (subst hx; simp; done) | (simp at *; omega)))))⟩
theorem Op_8 (a b : Int) (ha : 0 ≤ a) (ha' : a < 4294967296) (hb : 0 ≤ b) (hb' : b < 4294967296) (w : World) :
    Calls Try.prog 61 #[.int .i64 8, .int .u32 a, .int .u32 b] w fun e w' => e = .returned (.int .u32 (W.op 8 a b)) ∧ Bel w w' := by
  have hl : ∀ w1 : World, w1.heap[w.heap.size]? = some (.map opsEnt 13) → (Instr.lookup 133 (.map (some w.heap.size)) (.int .i64 8) true).run Try.prog w1 = .ok (.tuple #[.func (.func 84) #[] #[], .bool true]) w1 :=
    fun w1 h => run_lookup_hit w1 133 3 131 .i64 _ opsEnt 13 8 _ 5 Try.underlying133 Try.underlying3 h rfl
  go_enter Try.func61, Try.ntmps61
  go_wp2_with (first
    | (go_at_call 72; refine (ops_any _).mono ?_; rintro e w1 ⟨rfl, hm, hb1⟩)
    | (go_at_call 84; refine (clo_8 a b ha ha' hb hb' _).mono ?_; rintro e w2 ⟨rfl, hb2⟩))
  go_ret
  exact ⟨rfl, (by repeat (first | assumption | exact Bel.refl _ | refine Bel.drew ?_ | refine Bel.drewN ?_ _ | refine Bel.alloc ?_ _ | (refine Bel.trans ?_ (by assumption)) | (refine Bel.then ?_ (by assumption) (by intro x hx; first | (subst hx; simp; done) | (simp at *; omega)))))⟩
theorem Op_9 (a b : Int) (ha : 0 ≤ a) (ha' : a < 4294967296) (hb : 0 ≤ b) (hb' : b < 4294967296) (w : World) :
    Calls Try.prog 61 #[.int .i64 9, .int .u32 a, .int .u32 b] w fun e w' => e = .returned (.int .u32 (W.op 9 a b)) ∧ Bel w w' := by
  have hl : ∀ w1 : World, w1.heap[w.heap.size]? = some (.map opsEnt 13) → (Instr.lookup 133 (.map (some w.heap.size)) (.int .i64 9) true).run Try.prog w1 = .ok (.tuple #[.func (.func 85) #[] #[], .bool true]) w1 :=
    fun w1 h => run_lookup_hit w1 133 3 131 .i64 _ opsEnt 13 9 _ 6 Try.underlying133 Try.underlying3 h rfl
  go_enter Try.func61, Try.ntmps61
  go_wp2_with (first
    | (go_at_call 72; refine (ops_any _).mono ?_; rintro e w1 ⟨rfl, hm, hb1⟩)
    | (go_at_call 85; refine (clo_9 a b ha ha' hb hb' _).mono ?_; rintro e w2 ⟨rfl, hb2⟩))
  go_ret
  exact ⟨rfl, (by repeat (first | assumption | exact Bel.refl _ | refine Bel.drew ?_ | refine Bel.drewN ?_ _ | refine Bel.alloc ?_ _ | (refine Bel.trans ?_ (by assumption)) | (refine Bel.then ?_ (by assumption) (by intro x hx; first | (subst hx; simp; done) | (simp at *; omega)))))⟩
theorem Op_10 (a b : Int) (ha : 0 ≤ a) (ha' : a < 4294967296) (hb : 0 ≤ b) (hb' : b < 4294967296) (w : World) :
    Calls Try.prog 61 #[.int .i64 10, .int .u32 a, .int .u32 b] w fun e w' => e = .returned (.int .u32 (W.op 10 a b)) ∧ Bel w w' := by
  have hl : ∀ w1 : World, w1.heap[w.heap.size]? = some (.map opsEnt 13) → (Instr.lookup 133 (.map (some w.heap.size)) (.int .i64 10) true).run Try.prog w1 = .ok (.tuple #[.func (.func 86) #[] #[], .bool true]) w1 :=
    fun w1 h => run_lookup_hit w1 133 3 131 .i64 _ opsEnt 13 10 _ 7 Try.underlying133 Try.underlying3 h rfl
  go_enter Try.func61, Try.ntmps61
  go_wp2_with (first
    | (go_at_call 72; refine (ops_any _).mono ?_; rintro e w1 ⟨rfl, hm, hb1⟩)
    | (go_at_call 86; refine (clo_10 a b ha ha' hb hb' _).mono ?_; rintro e w2 ⟨rfl, hb2⟩))
  go_ret
  exact ⟨rfl, (by repeat (first | assumption | exact Bel.refl _ | refine Bel.drew ?_ | refine Bel.drewN ?_ _ | refine Bel.alloc ?_ _ | (refine Bel.trans ?_ (by assumption)) | (refine Bel.then ?_ (by assumption) (by intro x hx; first | (subst hx; simp; done) | (simp at *; omega)))))⟩
theorem Op_11 (a b : Int) (ha : 0 ≤ a) (ha' : a < 4294967296) (hb : 0 ≤ b) (hb' : b < 4294967296) (w : World) :
    Calls Try.prog 61 #[.int .i64 11, .int .u32 a, .int .u32 b] w fun e w' => e = .returned (.int .u32 (W.op 11 a b)) ∧ Bel w w' := by
  have hl : ∀ w1 : World, w1.heap[w.heap.size]? = some (.map opsEnt 13) → (Instr.lookup 133 (.map (some w.heap.size)) (.int .i64 11) true).run Try.prog w1 = .ok (.tuple #[.func (.func 87) #[] #[], .bool true]) w1 :=
    fun w1 h => run_lookup_hit w1 133 3 131 .i64 _ opsEnt 13 11 _ 8 Try.underlying133 Try.underlying3 h rfl
  go_enter Try.func61, Try.ntmps61
  go_wp2_with (first
    | (go_at_call 72; refine (ops_any _).mono ?_; rintro e w1 ⟨rfl, hm, hb1⟩)
    | (go_at_call 87; refine (clo_11 a b ha ha' hb hb' _).mono ?_; rintro e w2 ⟨rfl, hb2⟩))
  go_ret
  exact ⟨rfl, (by repeat (first | assumption | exact Bel.refl _ | refine Bel.drew ?_ | refine Bel.drewN ?_ _ | refine Bel.alloc ?_ _ | (refine Bel.trans ?_ (by assumption)) | (refine Bel.then ?_ (by assumption) (by intro x hx; first | (subst hx; simp; done) | (simp at *; omega)))))⟩
theorem Op_12 (a b : Int) (ha : 0 ≤ a) (ha' : a < 4294967296) (hb : 0 ≤ b) (hb' : b < 4294967296) (w : World) :
    Calls Try.prog 61 #[.int .i64 12, .int .u32 a, .int .u32 b] w fun e w' => e = .returned (.int .u32 (W.op 12 a b)) ∧ Bel w w' := by
  have hl : ∀ w1 : World, w1.heap[w.heap.size]? = some (.map opsEnt 13) → (Instr.lookup 133 (.map (some w.heap.size)) (.int .i64 12) true).run Try.prog w1 = .ok (.tuple #[.func (.func 88) #[] #[], .bool true]) w1 :=
    fun w1 h => run_lookup_hit w1 133 3 131 .i64 _ opsEnt 13 12 _ 9 Try.underlying133 Try.underlying3 h rfl
  go_enter Try.func61, Try.ntmps61
  go_wp2_with (first
    | (go_at_call 72; refine (ops_any _).mono ?_; rintro e w1 ⟨rfl, hm, hb1⟩)
    | (go_at_call 88; refine (clo_12 a b ha ha' hb hb' _).mono ?_; rintro e w2 ⟨rfl, hb2⟩))
  go_ret
  exact ⟨rfl, (by repeat (first | assumption | exact Bel.refl _ | refine Bel.drew ?_ | refine Bel.drewN ?_ _ | refine Bel.alloc ?_ _ | (refine Bel.trans ?_ (by assumption)) | (refine Bel.then ?_ (by assumption) (by intro x hx; first | (subst hx; simp; done) | (simp at *; omega)))))⟩
theorem Op_13 (a b : Int) (ha : 0 ≤ a) (ha' : a < 4294967296) (hb : 0 ≤ b) (hb' : b < 4294967296) (w : World) :
    Calls Try.prog 61 #[.int .i64 13, .int .u32 a, .int .u32 b] w fun e w' => e = .returned (.int .u32 (W.op 13 a b)) ∧ Bel w w' := by
  have hl : ∀ w1 : World, w1.heap[w.heap.size]? = some (.map opsEnt 13) → (Instr.lookup 133 (.map (some w.heap.size)) (.int .i64 13) true).run Try.prog w1 = .ok (.tuple #[.func (.func 89) #[] #[], .bool true]) w1 :=
    fun w1 h => run_lookup_hit w1 133 3 131 .i64 _ opsEnt 13 13 _ 10 Try.underlying133 Try.underlying3 h rfl
  go_enter Try.func61, Try.ntmps61
  go_wp2_with (first
    | (go_at_call 72; refine (ops_any _).mono ?_; rintro e w1 ⟨rfl, hm, hb1⟩)
    | (go_at_call 89; refine (clo_13 a b ha ha' hb hb' _).mono ?_; rintro e w2 ⟨rfl, hb2⟩))
  go_ret
  exact ⟨rfl, (by repeat (first | assumption | exact Bel.refl _ | refine Bel.drew ?_ | refine Bel.drewN ?_ _ | refine Bel.alloc ?_ _ | (refine Bel.trans ?_ (by assumption)) | (refine Bel.then ?_ (by assumption) (by intro x hx; first | (subst hx; simp; done) | (simp at *; omega)))))⟩
theorem Op_14 (a b : Int) (ha : 0 ≤ a) (ha' : a < 4294967296) (hb : 0 ≤ b) (hb' : b < 4294967296) (w : World) :
    Calls Try.prog 61 #[.int .i64 14, .int .u32 a, .int .u32 b] w fun e w' => e = .returned (.int .u32 (W.op 14 a b)) ∧ Bel w w' := by
  have hl : ∀ w1 : World, w1.heap[w.heap.size]? = some (.map opsEnt 13) → (Instr.lookup 133 (.map (some w.heap.size)) (.int .i64 14) true).run Try.prog w1 = .ok (.tuple #[.func (.func 91) #[] #[], .bool true]) w1 :=
    fun w1 h => run_lookup_hit w1 133 3 131 .i64 _ opsEnt 13 14 _ 11 Try.underlying133 Try.underlying3 h rfl
  go_enter Try.func61, Try.ntmps61
  go_wp2_with (first
    | (go_at_call 72; refine (ops_any _).mono ?_; rintro e w1 ⟨rfl, hm, hb1⟩)
    | (go_at_call 91; refine (clo_14 a b ha ha' hb hb' _).mono ?_; rintro e w2 ⟨rfl, hb2⟩))
  go_ret
  exact ⟨rfl, (by repeat (first | assumption | exact Bel.refl _ | refine Bel.drew ?_ | refine Bel.drewN ?_ _ | refine Bel.alloc ?_ _ | (refine Bel.trans ?_ (by assumption)) | (refine Bel.then ?_ (by assumption) (by intro x hx; first | (subst hx; simp; done) | (simp at *; omega)))))⟩
theorem Op_15 (a b : Int) (ha : 0 ≤ a) (ha' : a < 4294967296) (hb : 0 ≤ b) (hb' : b < 4294967296) (w : World) :
    Calls Try.prog 61 #[.int .i64 15, .int .u32 a, .int .u32 b] w fun e w' => e = .returned (.int .u32 (W.op 15 a b)) ∧ Bel w w' := by
  have hl : ∀ w1 : World, w1.heap[w.heap.size]? = some (.map opsEnt 13) → (Instr.lookup 133 (.map (some w.heap.size)) (.int .i64 15) true).run Try.prog w1 = .ok (.tuple #[.func (.func 92) #[] #[], .bool true]) w1 :=
    fun w1 h => run_lookup_hit w1 133 3 131 .i64 _ opsEnt 13 15 _ 12 Try.underlying133 Try.underlying3 h rfl
  go_enter Try.func61, Try.ntmps61
  go_wp2_with (first
    | (go_at_call 72; refine (ops_any _).mono ?_; rintro e w1 ⟨rfl, hm, hb1⟩)
    | (go_at_call 92; refine (clo_15 a b ha ha' hb hb' _).mono ?_; rintro e w2 ⟨rfl, hb2⟩))
  go_ret
  exact ⟨rfl, (by repeat (first | assumption | exact Bel.refl _ | refine Bel.drew ?_ | refine Bel.drewN ?_ _ | refine Bel.alloc ?_ _ | (refine Bel.trans ?_ (by assumption)) | (refine Bel.then ?_ (by assumption) (by intro x hx; first | (subst hx; simp; done) | (simp at *; omega)))))⟩
theorem opsEnt_miss (c : Int) (h : c < 3 ∨ 15 < c) : Instr.findNow (.int .i64) (.int .i64 c) opsEnt.toList 0 = some none := by
  have e : ∀ k : Int, 3 ≤ k → k ≤ 15 → (c == k) = false := fun k _ _ => by simp; omega
  simp [opsEnt, Instr.findNow, Instr.sameNow, e]
theorem Op_n (c a b : Int) (hc : c < 3 ∨ 15 < c) (w : World) :
    Calls Try.prog 61 #[.int .i64 c, .int .u32 a, .int .u32 b] w fun e w' => e = .returned (.int .u32 (W.op c a b)) ∧ Bel w w' := by
  have hz : ∀ w : World, (zeroValue 131).run Try.prog w = .ok .nilFunc w := fun w => by kernel_rfl
  have hl : ∀ w1 : World, w1.heap[w.heap.size]? = some (.map opsEnt 13) → (Instr.lookup 133 (.map (some w.heap.size)) (.int .i64 c) true).run Try.prog w1 = .ok (.tuple #[.nilFunc, .bool false]) w1 :=
    fun w1 h => run_lookup_miss w1 133 3 131 .i64 _ opsEnt 13 c _ Try.underlying133 Try.underlying3 (hz _) h (opsEnt_miss c hc)
  have HN := hid (W.op_n c a b hc)
  clear hz
  go_enter Try.func61, Try.ntmps61
  go_wp2_with (go_at_call 72; refine (ops_any _).mono ?_; rintro e w1 ⟨rfl, hm, hb1⟩)
  go_ret
  exact ⟨ret_int (by rw [HN.out]), (by repeat (first | assumption | exact Bel.refl _ | refine Bel.drew ?_ | refine Bel.drewN ?_ _ | refine Bel.alloc ?_ _ | (refine Bel.trans ?_ (by assumption)) | (refine Bel.then ?_ (by assumption) (by intro x hx; first | (subst hx; simp; done) | (simp at *; omega)))))⟩
theorem Op_any (c a b : Int) (ha : 0 ≤ a) (ha' : a < 4294967296) (hb : 0 ≤ b) (hb' : b < 4294967296) (w : World) :
    Calls Try.prog 61 #[.int .i64 c, .int .u32 a, .int .u32 b] w fun e w' => e = .returned (.int .u32 (W.op c a b)) ∧ Bel w w' := by
  rcases (by omega : c = 3 ∨ c = 4 ∨ c = 5 ∨ c = 6 ∨ c = 7 ∨ c = 8 ∨ c = 9 ∨ c = 10 ∨ c = 11 ∨ c = 12 ∨ c = 13 ∨ c = 14 ∨ c = 15 ∨ (c < 3 ∨ 15 < c)) with rfl | rfl | rfl | rfl | rfl | rfl | rfl | rfl | rfl | rfl | rfl | rfl | rfl | h
  · exact Op_3 a b ha ha' hb hb' w
  · exact Op_4 a b ha ha' hb hb' w
  · exact Op_5 a b ha ha' hb hb' w
  · exact Op_6 a b ha ha' hb hb' w
  · exact Op_7 a b ha ha' hb hb' w
  · exact Op_8 a b ha ha' hb hb' w
  · exact Op_9 a b ha ha' hb hb' w
  · exact Op_10 a b ha ha' hb hb' w
  · exact Op_11 a b ha ha' hb hb' w
  · exact Op_12 a b ha ha' hb hb' w
  · exact Op_13 a b ha ha' hb hb' w
  · exact Op_14 a b ha ha' hb hb' w
  · exact Op_15 a b ha ha' hb hb' w
  · exact Op_n c a b h w
end Go.Proofs.Ytgbndbljohpnmaa
