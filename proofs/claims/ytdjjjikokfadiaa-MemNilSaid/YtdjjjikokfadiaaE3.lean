/- The logic of symbolic states, third part: operations with an index that is a letter, strings, append. No condition. -/
import Derived.Test.YtdjjjikokfadiaaE2
import Derived.Test.YtdjjjikokfadiaaW3
import Derived.Laws.AppendOwn
namespace Go.Proofs.Ytdjjjikokfadiaa
set_option linter.unusedVariables false
set_option linter.unusedSimpArgs false
open Go.RowKit
section rules
variable {P : Program} {n : Nat} {ops : Array Oper} {Q : Exit → Act → World → Prop} {S : Nat → Prop} {w0 : World} {X : World → Prop} {L : List (Nat × List Value)} {l : List Oper} {fr : E.Fr}
variable {T : TypeId} {d : Option Nat} {pos : String} {af : Array Edge} {gd : Option (Nat × Bool)}
theorem E.add_off (g j m : Nat) : (⟨g, j, none⟩ : Addr).add m = ⟨g, j + m, none⟩ := by unfold Addr.add; split <;> simp_all
/-- The address of an array's element. -/
theorem E.idxA {t e : TypeId} {x ix : Operand} (g j len esz : Nat) (k : IntKind) (i : Int) (hu : P.underlying t = some (.array len e)) (hs : (P.info? e).map (·.size) = some esz) (hx : E.ev fr x = .pointer (some ⟨g, j, none⟩)) (hi : E.ev fr ix = .int k i)
    (h0 : 0 ≤ i) (h1 : i < len) (w : World) : (execOp (E.ev fr) ⟨d, .indexAddr t x ix, T, pos, af, gd⟩).run P w = .ok (.value (.pointer (some ⟨g, j + i.toNat * esz, none⟩))) w := by
  cases hi0 : P.info? e with
  | none => rw [hi0] at hs; cases hs
  | some ie =>
    rw [hi0] at hs
    simp only [Option.map_some, Option.some.injEq] at hs
    subst hs
    show (do let r ← Instr.indexAt t (E.ev fr x) (E.ev fr ix); pure (Next.value r) : Sem Next).run P w = _
    rw [hx, hi]
    simp [Instr.indexAt, asIntOf, underlying, hu, Instr.sureAddr, sizeOf, typeInfo, hi0, h0, h1, E.add_off]
/-- The address of a slice's element. -/
theorem E.idxS {t e : TypeId} {x ix : Operand} (g j len cap esz : Nat) (k : IntKind) (i : Int) (hu : P.underlying t = some (.slice e)) (hs : (P.info? e).map (·.size) = some esz) (hx : E.ev fr x = .slice (some ⟨g, j, none⟩) len cap) (hi : E.ev fr ix = .int k i)
    (h0 : 0 ≤ i) (h1 : i < len) (w : World) : (execOp (E.ev fr) ⟨d, .indexAddr t x ix, T, pos, af, gd⟩).run P w = .ok (.value (.pointer (some ⟨g, j + i.toNat * esz, none⟩))) w := by
  cases hi0 : P.info? e with
  | none => rw [hi0] at hs; cases hs
  | some ie =>
    rw [hi0] at hs
    simp only [Option.map_some, Option.some.injEq] at hs
    subst hs
    show (do let r ← Instr.indexAt t (E.ev fr x) (E.ev fr ix); pure (Next.value r) : Sem Next).run P w = _
    rw [hx, hi]
    simp [Instr.indexAt, asIntOf, underlying, hu, Instr.sureAddr, sizeOf, typeInfo, hi0, h0, h1, E.add_off]
theorem E.ld_one {t : TypeId} {k : IntKind} {cs : List Value} {j : Nat} (hu : P.underlying t = some (.int k)) : E.ld P t cs j = cs[j]? := by
  unfold E.ld; rw [hu]
theorem E.row_at {k : IntKind} {xs : List Int} {j : Nat} (h : j < xs.length) : (xs.map (Value.int k))[j]? = some (.int k (xs.getD j 0)) := by
  simp [List.getElem?_map, List.getD, h]
/-- A row of integers, at an index. -/
theorem E.ld_row {t : TypeId} {k : IntKind} {xs : List Int} {j : Nat} (hu : P.underlying t = some (.int k)) (h : j < xs.length) : E.ld P t (xs.map (Value.int k)) j = some (.int k (xs.getD j 0)) := by
  rw [E.ld_one hu, E.row_at h]
theorem E.ld_rowA {t : TypeId} {k : IntKind} {xs : List Int} {rest : List Value} {j : Nat} (hu : P.underlying t = some (.int k)) (h : j < xs.length) : E.ld P t (xs.map (Value.int k) ++ rest) j = some (.int k (xs.getD j 0)) := by
  rw [E.ld_one hu, List.getElem?_append_left (by simpa using h), E.row_at h]
theorem E.size_pos {s : ByteArray} (h : (s.toList == (⟨#[]⟩ : ByteArray).toList) = false) : 0 < s.size := by
  rcases Nat.eq_zero_or_pos s.size with h0 | h0
  · exfalso
    have e : s = ⟨#[]⟩ := by
      apply ByteArray.ext
      exact Array.eq_empty_of_size_eq_zero h0
    rw [e] at h; simp at h
  · exact h0
/-- A byte of a string. -/
theorem E.sidx {t : TypeId} {x ix : Operand} (s : ByteArray) (k : IntKind) (i : Int) (hu : P.underlying t = some .string) (hx : E.ev fr x = .string s) (hi : E.ev fr ix = .int k i) (h0 : 0 ≤ i) (h1 : i < s.size) (w : World) :
    (execOp (E.ev fr) ⟨d, .index t x ix, T, pos, af, gd⟩).run P w = .ok (.value (.int .u8 (W.byt s.data.toList i.toNat))) w := by
  have hb : i.toNat < s.size := by omega
  show (do let r ← Instr.index t (E.ev fr x) (E.ev fr ix); pure (Next.value r) : Sem Next).run P w = _
  rw [hx, hi]
  have e : s[i.toNat]? = some s[i.toNat] := by simp [hb]
  simp [Instr.index, asIntOf, underlying, hu, h0, hb]
  exact W.byt_at s i.toNat hb
/-- Two strings, joined. -/
theorem E.cat {t u : TypeId} {x y : Operand} (a b : ByteArray) (hx : E.ev fr x = .string a) (hy : E.ev fr y = .string b) (h : a.size + b.size ≤ 9223372036854775807) (w : World) :
    (execOp (E.ev fr) ⟨d, .binOp .add t x y u, T, pos, af, gd⟩).run P w = .ok (.value (.string (a ++ b))) w := by
  show (do let r ← (do eqGuard .add t x y (E.ev fr x) (E.ev fr y); binOp .add t (E.ev fr x) (E.ev fr y)); pure (Next.value r) : Sem Next).run P w = _
  rw [hx, hy]
  have hm : IntKind.i64.max = 9223372036854775807 := by decide
  have : ¬ ((a.size + b.size : Nat) : Int) > IntKind.i64.max := by rw [hm]; omega
  simp [eqGuard, binOp, Op.stringOp, hm]
  omega
/-- A string's bytes up to an index. -/
theorem E.slTo {t : TypeId} {x hi : Operand} (s : ByteArray) (k : IntKind) (i : Int) (hu : P.underlying t = some .string) (hx : E.ev fr x = .string s) (hh : E.ev fr hi = .int k i) (h0 : 0 ≤ i) (h1 : i ≤ s.size) (w : World) :
    (execOp (E.ev fr) ⟨d, .slice t x none (some hi) none, T, pos, af, gd⟩).run P w = .ok (.value (.string (s.extract 0 i.toNat))) w := by
  show (do let r ← Instr.sliceAt t (E.ev fr x) none (some (E.ev fr hi)) none; pure (Next.value r) : Sem Next).run P w = _
  rw [hx, hh]
  simp [Instr.sliceAt, Instr.slice, Instr.sliceBounds, Instr.sliceBound, asIntOf, underlying, hu, h0, h1]
/-- A string's bytes from an index on. -/
theorem E.slFrom {t : TypeId} {x lo : Operand} (s : ByteArray) (k : IntKind) (i : Int) (hu : P.underlying t = some .string) (hx : E.ev fr x = .string s) (hh : E.ev fr lo = .int k i) (h0 : 0 ≤ i) (h1 : i ≤ s.size) (w : World) :
    (execOp (E.ev fr) ⟨d, .slice t x (some lo) none none, T, pos, af, gd⟩).run P w = .ok (.value (.string (s.extract i.toNat s.size))) w := by
  show (do let r ← Instr.sliceAt t (E.ev fr x) (some (E.ev fr lo)) none none; pure (Next.value r) : Sem Next).run P w = _
  rw [hx, hh]
  simp [Instr.sliceAt, Instr.slice, Instr.sliceBounds, Instr.sliceBound, asIntOf, underlying, hu, h0, h1]
/-- A row of bytes as a string. -/
theorem E.b2s {a b : TypeId} {x : Operand} {w : World} (h : E.Hp S w0 X L w) (i g j len cap : Nat) {cs : List Value} (xs : List Int) {e : TypeId} (hs : P.underlying a = some (.slice e)) (he : P.underlying e = some (.int .u8)) (hb : P.underlying b = some .string)
    (hx : E.ev fr x = .slice (some ⟨g, j, none⟩) len cap) (hL : L[i]? = some (g, cs)) (hc : (cs.drop j).take len = xs.map (Value.int .u8)) (hl : xs.length = len) :
    (execOp (E.ev fr) ⟨d, .convert a b x, T, pos, af, gd⟩).run P w = .ok (.value (.string (strOfNums xs))) w := by
  show (do let r ← convert a b (E.ev fr x); pure (Next.value r) : Sem Next).run P w = _
  rw [hx]
  have := run_convert_bytes_arg (P := P) w a e hs he g j len cap xs hl (fun k hk => by
    refine h.mem _ (List.mem_of_getElem? hL) (j + k) _ ?_
    have h1 : ((cs.drop j).take len)[k]? = some (.int .u8 (xs.getD k 0)) := by rw [hc]; exact E.row_at (by omega)
    rw [List.getElem?_take, if_pos hk, List.getElem?_drop] at h1
    exact h1) b hb
  simp only [Sem.run_bind, this, Result.andThen_ok]; rfl
theorem E.Hp.perm {L' : List (Nat × List Value)} {w : World} (h : E.Hp S w0 X L w) (hp : L'.Perm L) : E.Hp S w0 X L' w :=
  ⟨h.ch, fun p hm => h.mem p (hp.mem_iff.1 hm), fun p hm => h.fz p (hp.mem_iff.1 hm), fun p hm => h.lt p (hp.mem_iff.1 hm), fun p hm => h.own p (hp.mem_iff.1 hm), (hp.map _).nodup_iff.2 h.nodup,
    fun w2 h1 h2 => h.ext w2 h1 fun b hb hn => h2 b hb fun hm => hn ((hp.map _).mem_iff.1 hm)⟩
theorem E.set_perm : ∀ (L : List (Nat × List Value)) (i : Nat) (p : Nat × List Value), i < L.length → (p :: L.eraseIdx i).Perm (L.set i p)
  | [], _, _, h => by simp at h
  | q :: L, 0, p, _ => by simp
  | q :: L, i + 1, p, h => by
    simp only [List.eraseIdx_cons_succ, List.set_cons_succ]
    exact (List.Perm.swap q p _).trans ((E.set_perm L i p (by simpa using h)).cons q)
theorem E.lay_at : ∀ (us vs rest : List Value), us.length ≤ rest.length → E.lay (vs ++ rest) vs.length us = vs ++ us ++ rest.drop us.length
  | [], vs, rest, _ => by simp [E.lay]
  | u :: us, vs, [], h => by simp at h
  | u :: us, vs, r :: rest, h => by
    have ih := E.lay_at us (vs ++ [u]) rest (by simpa using h)
    have e : (vs ++ r :: rest).set vs.length u = (vs ++ [u]) ++ rest := by
      rw [List.set_append_right _ _ (Nat.le_refl _)]; simp
    show E.lay ((vs ++ r :: rest).set vs.length u) (vs.length + 1) us = _
    rw [e, show vs.length + 1 = (vs ++ [u]).length by simp, ih]
    simp
def E.tinfo (P : Program) (e : TypeId) : Option (Nat × Nat × Nat) := (P.info? e).bind fun i => i.zero.map fun z => (i.size, i.bytes, z.cells.size)
/-- append to a slice of the call's own that begins at the head of its block. -/
theorem E.G.append {t e : TypeId} {s x : Operand} (i g nn c ix gx jx m cx sz by_ : Nat) (vs rest us csx : List Value) (ht : P.underlying t = some (.slice e)) (hi : E.tinfo P e = some (sz, by_, sz))
    (hs : E.ev fr s = .slice (some ⟨g, 0, none⟩) nn c) (hL : L[i]? = some (g, vs ++ rest)) (hvl : vs.length = nn * sz) (hrl : rest.length = (c - nn) * sz) (hnc : nn ≤ c)
    (hx : E.ev fr x = .slice (some ⟨gx, jx, none⟩) m cx) (hLx : L[ix]? = some (gx, csx)) (hus : (csx.drop jx).take (m * sz) = us) (hul : us.length = m * sz) (hub : us.all E.cellB = true) (hb : (nn + m) * by_ ≤ 140737488355328)
    (h63 : nn + m ≤ 9223372036854775807) (h0 : by_ ≠ 0)
    (hck : E.ck n ops fr ⟨d, .call { callee := .builtin .append, args := #[s, x], argTypes := #[t, t] }, T, pos, af, gd⟩ = true)
    (k : ∀ g' c' rest', nn + m ≤ c' → rest'.length = (c' - (nn + m)) * sz → E.G P n ops Q l (E.upd fr d (.slice (some ⟨g', 0, none⟩) (nn + m) c')) S w0 X ((g', vs ++ us ++ rest') :: L.eraseIdx i)) :
    E.G P n ops Q (⟨d, .call { callee := .builtin .append, args := #[s, x], argTypes := #[t, t] }, T, pos, af, gd⟩ :: l) fr S w0 X L := by
  refine E.G.any (I := Nat × Nat × List Value) (fun a => nn + m ≤ a.2.1 ∧ a.2.2.length = (a.2.1 - (nn + m)) * sz) (fun a => .slice (some ⟨a.1, 0, none⟩) (nn + m) a.2.1) (fun _ => X) (fun a => (a.1, vs ++ us ++ a.2.2) :: L.eraseIdx i) (fun w hh => ?_) hck (fun a ha => k a.1 a.2.1 a.2.2 ha.1 ha.2)
  have hop : (execOp (E.ev fr) ⟨d, .call { callee := .builtin .append, args := #[s, x], argTypes := #[t, t] }, T, pos, af, gd⟩).run P w = ((Builtin.append_ #[t, t] T #[E.ev fr s, E.ev fr x]).run P w).andThen fun v w' => .ok (.value v) w' := by
    simp [execOp, resolve, invoke, builtin]
  rw [hop, hs, hx]
  unfold E.tinfo at hi
  cases hie : P.info? e with
  | none => rw [hie] at hi; cases hi
  | some ie =>
    rw [hie] at hi
    simp only [Option.bind_some] at hi
    cases hz : ie.zero with
    | none => rw [hz] at hi; cases hi
    | some z =>
      rw [hz] at hi
      simp only [Option.map_some, Option.some.injEq, Prod.mk.injEq] at hi
      obtain ⟨h1, h2, h3⟩ := hi
      subst h1; subst h2
      have hmg : (g, vs ++ rest) ∈ L := List.mem_of_getElem? hL
      have hi' : i < L.length := (List.getElem?_eq_some_iff.1 hL).1
      have hnews : ∀ j u, us[j]? = some u → w.cell? ((⟨gx, jx, none⟩ : Addr).add j) = some u := fun j u hj => by
        rw [E.add_off]
        refine hh.mem _ (List.mem_of_getElem? hLx) (jx + j) u ?_
        rw [← hus, List.getElem?_take] at hj
        split at hj
        · rwa [List.getElem?_drop] at hj
        · cases hj
      by_cases hroom : nn + m ≤ c
      · have hfirst := run_firstCells_some (P := P) w ie.size m ⟨gx, jx, none⟩ m cx us hul hnews
        have hle : nn * ie.size + us.length ≤ (vs ++ rest).length := by
          rw [List.length_append, hvl, hrl, hul]
          have : m * ie.size ≤ (c - nn) * ie.size := Nat.mul_le_mul_right _ (by omega)
          omega
        obtain ⟨w', hr, hw'⟩ := E.run_storeFrom (P := P) i g (nn * ie.size) us 0 _ _ _ hh hL (by simpa using hle) hub
        refine ⟨(g, c, rest.drop us.length), w', ⟨hroom, ?_⟩, ?_, ?_⟩
        · rw [List.length_drop, hrl, hul, ← Nat.sub_mul, Nat.sub_sub]
        · simp [Builtin.append_, run_underlying ht, sizeOf, typeInfo, hie, Builtin.lenOf, hroom, hfirst, E.add_off, hr]
        · have hl2 := E.lay_at us vs rest (by rw [hrl, hul]; exact Nat.mul_le_mul_right _ (by omega))
          rw [Nat.add_zero, ← hvl, hl2] at hw'
          exact hw'.perm (E.set_perm L i _ hi')
      · have holds : ∀ j u, vs[j]? = some u → w.cell? ((⟨g, 0, none⟩ : Addr).add j) = some u := fun j u hj => by
          rw [E.add_off, Nat.zero_add]
          refine hh.mem _ hmg j u ?_
          have hlt := (List.getElem?_eq_some_iff.1 hj).1
          rw [List.getElem?_append_left hlt]; exact hj
        have hr := run_append_grow (P := P) w t T e ie z ht hie hz ⟨g, 0, none⟩ nn c vs hvl holds ⟨gx, jx, none⟩ m cx us hul hnews (by omega) (by omega) (growslice_fits (by omega) hb)
        have hge := grownCap_ge w (nn + m) c e
        refine ⟨(w.heap.size, grownCap w (nn + m) c e, (Builtin.zeroCells z.cells (grownCap w (nn + m) c e - (nn + m))).toList), _, ⟨hge, ?_⟩, by rw [hr]; rfl, ?_⟩
        · rw [Array.length_toList, size_zeroCells, h3]
        · have hb1 : Bel w w.drew := Bel.drew (Bel.refl w)
          have hn := (hh.bel hb1).new (vs ++ us ++ (Builtin.zeroCells z.cells (grownCap w (nn + m) c e - (nn + m))).toList) e
          have ea : (vs ++ us ++ (Builtin.zeroCells z.cells (grownCap w (nn + m) c e - (nn + m))).toList).toArray = vs.toArray ++ us.toArray ++ Builtin.zeroCells z.cells (grownCap w (nn + m) c e - (nn + m)) := by simp
          rw [ea] at hn
          exact hn.less (List.Sublist.cons_cons _ (List.eraseIdx_sublist L i))
/-- append to a nil slice. -/
theorem E.G.appendNil {t e : TypeId} {s x : Operand} (ix gx jx m cx sz by_ : Nat) (us csx : List Value) (ht : P.underlying t = some (.slice e)) (hi : E.tinfo P e = some (sz, by_, sz))
    (hs : E.ev fr s = .slice none 0 0) (hx : E.ev fr x = .slice (some ⟨gx, jx, none⟩) m cx) (hLx : L[ix]? = some (gx, csx)) (hus : (csx.drop jx).take (m * sz) = us) (hul : us.length = m * sz) (hm : 0 < m) (hb : m * by_ ≤ 140737488355328) (h63 : m ≤ 9223372036854775807)
    (hck : E.ck n ops fr ⟨d, .call { callee := .builtin .append, args := #[s, x], argTypes := #[t, t] }, T, pos, af, gd⟩ = true)
    (k : ∀ g' c' rest', m ≤ c' → rest'.length = (c' - m) * sz → E.G P n ops Q l (E.upd fr d (.slice (some ⟨g', 0, none⟩) m c')) S w0 X ((g', us ++ rest') :: L)) :
    E.G P n ops Q (⟨d, .call { callee := .builtin .append, args := #[s, x], argTypes := #[t, t] }, T, pos, af, gd⟩ :: l) fr S w0 X L := by
  refine E.G.any (I := Nat × Nat × List Value) (fun a => m ≤ a.2.1 ∧ a.2.2.length = (a.2.1 - m) * sz) (fun a => .slice (some ⟨a.1, 0, none⟩) m a.2.1) (fun _ => X) (fun a => (a.1, us ++ a.2.2) :: L) (fun w hh => ?_) hck (fun a ha => k a.1 a.2.1 a.2.2 ha.1 ha.2)
  have hop : (execOp (E.ev fr) ⟨d, .call { callee := .builtin .append, args := #[s, x], argTypes := #[t, t] }, T, pos, af, gd⟩).run P w = ((Builtin.append_ #[t, t] T #[E.ev fr s, E.ev fr x]).run P w).andThen fun v w' => .ok (.value v) w' := by
    simp [execOp, resolve, invoke, builtin]
  rw [hop, hs, hx]
  unfold E.tinfo at hi
  cases hie : P.info? e with
  | none => rw [hie] at hi; cases hi
  | some ie =>
    rw [hie] at hi
    simp only [Option.bind_some] at hi
    cases hz : ie.zero with
    | none => rw [hz] at hi; cases hi
    | some z =>
      rw [hz] at hi
      simp only [Option.map_some, Option.some.injEq, Prod.mk.injEq] at hi
      obtain ⟨h1, h2, h3⟩ := hi
      subst h1; subst h2
      have hnews : ∀ j u, us[j]? = some u → w.cell? ((⟨gx, jx, none⟩ : Addr).add j) = some u := fun j u hj => by
        rw [E.add_off]
        refine hh.mem _ (List.mem_of_getElem? hLx) (jx + j) u ?_
        rw [← hus, List.getElem?_take] at hj
        split at hj
        · rwa [List.getElem?_drop] at hj
        · cases hj
      have hr := run_append_nil (P := P) w t T e ie z ht hie hz ⟨gx, jx, none⟩ m cx us hul hnews hm (by omega) (by omega)
      have hge := grownCap_ge w m 0 e
      refine ⟨(w.heap.size, grownCap w m 0 e, (Builtin.zeroCells z.cells (grownCap w m 0 e - m)).toList), _, ⟨hge, ?_⟩, by rw [hr]; rfl, ?_⟩
      · rw [Array.length_toList, size_zeroCells, h3]
      · have hb1 : Bel w w.drew := Bel.drew (Bel.refl w)
        have hn := (hh.bel hb1).new (us ++ (Builtin.zeroCells z.cells (grownCap w m 0 e - m)).toList) e
        have ea : (us ++ (Builtin.zeroCells z.cells (grownCap w m 0 e - m)).toList).toArray = us.toArray ++ Builtin.zeroCells z.cells (grownCap w m 0 e - m) := by simp
        rw [ea] at hn
        exact hn
end rules
end Go.Proofs.Ytdjjjikokfadiaa
