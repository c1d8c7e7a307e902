/- Items that are read only: a state without an account of what is owned. No condition. -/
import Derived.Test.YtdjjjikokfadiaaAw
namespace Go.Proofs.Ytdjjjikokfadiaa
set_option linter.unusedVariables false
set_option linter.unusedSimpArgs false
open Go.RowKit
def A.Y (l : List A.It) (w : World) : Prop := ∃ o a, A.Has l w o a
theorem A.X.y {w0 w : World} {o0 a0 : Nat → Prop} {l : List A.It} (h : A.X w0 o0 a0 l w) : A.Y l w := by
  obtain ⟨_, o, a, h, _⟩ := h; exact ⟨o, a, h⟩
theorem A.startY {w : World} {o a : Nat → Prop} {l : List A.It} (h : A.Has l w o a) : E.Hp (fun _ => False) w (A.Y l) [] w :=
  ⟨Ch.refl _ _, by simp, by simp, by simp, by simp, by simp, fun w' _ hw => ⟨o, a, h.keep fun x hx => hw x (h.lt x hx) (by simp)⟩⟩
theorem A.Y.get {w : World} {its : List A.It} {it : A.It} {k : Nat} (h : A.Y its w) (hk : its[k]? = some it) : ∃ o1 a1, it.t w o1 a1 := by
  obtain ⟨o, a, hh⟩ := h; exact hh.get hk
theorem A.Y.rd {P : Program} {f : FuncId} {args : Array Value} {v : Value} {p its : List A.It} {w : World} (fm : List A.It) (hc : A.Rd P f args p v) (h : A.Y its w) (h1 : its.Perm (p ++ fm)) : Calls P f args w fun e w' => e = .returned v ∧ Bel w w' := by
  obtain ⟨o, a, hh⟩ := h
  exact hc.frame fm w o a (hh.perm h1)
section rules
variable {P : Program} {n : Nat} {ops : Array Oper} {w : World} {its : List A.It} {fr : E.Fr} {d : Option Nat} {T : TypeId} {pos : String} {af : Array Edge} {gd : Option (Nat × Bool)} {x ix : Operand}
theorem A.Y.idx {t e : TypeId} {kd ik : IntKind} {ao : Option Addr} {len cap c2 : Nat} {l : List Int} {i : Nat} {k : Nat} (h : A.Y its w) (hk : its[k]? = some (A.vec kd ao cap l)) (hu : P.underlying t = some (.slice e)) (hs : (P.info? e).map (·.size) = some 1) (hx : E.ev fr x = .slice ao len c2) (hi : E.ev fr ix = .int ik ((i : Nat) : Int)) (h1 : i < len) (h2 : i < l.length) :
    (execOp (E.ev fr) ⟨d, .indexAddr t x ix, T, pos, af, gd⟩).run P w = .ok (.value (.pointer (some ⟨A.bk ao, i, none⟩))) w := by
  obtain ⟨o1, a1, hv⟩ := h.get hk
  have hao := A.vec_ao hv (by have := hv.1; omega)
  have hx2 : E.ev fr x = .slice (some ⟨A.bk ao, 0, none⟩) len c2 := hao ▸ hx
  have := E.idxS (e := e) (d := d) (T := T) (pos := pos) (af := af) (gd := gd) (A.bk ao) 0 len c2 1 ik ((i : Nat) : Int) hu hs hx2 hi (by omega) (by omega) w
  rw [this, Int.toNat_natCast]
  congr 5; omega
theorem A.Y.vld {t : TypeId} {kd : IntKind} {ao : Option Addr} {cap : Nat} {l : List Int} {i : Nat} {k : Nat} (h : A.Y its w) (hk : its[k]? = some (A.vec kd ao cap l)) (hu : P.underlying t = some (.int kd)) (hx : E.ev fr x = .pointer (some ⟨A.bk ao, i, none⟩)) (h2 : i < l.length) :
    (execOp (E.ev fr) ⟨d, .load t x, T, pos, af, gd⟩).run P w = .ok (.value (.int kd (l.getD i 0))) w := by
  obtain ⟨o1, a1, hv⟩ := h.get hk
  exact A.load hx hu rfl (A.vec_at hv h2)
/-- A value is read out of a block that is an item. -/
theorem A.Y.bld {t : TypeId} {g j : Nat} {cs : List Value} {v : Value} {k : Nat} (h : A.Y its w) (hk : its[k]? = some (A.blk g cs)) (hx : E.ev fr x = .pointer (some ⟨g, j, none⟩)) (hv : E.ld P t cs j = some v) :
    (execOp (E.ev fr) ⟨d, .load t x, T, pos, af, gd⟩).run P w = .ok (.value v) w := by
  obtain ⟨o1, a1, hb⟩ := h.get hk
  have := E.ld_run (P := P) (w := w) (t := t) hb.1 hv
  show (do let r ← Instr.loadAt t (E.ev fr x); pure (Next.value r)).run P w = _
  rw [hx]; simp [this]
/-- A part of a slice of bytes, as a string. -/
theorem A.Y.str {a b e : TypeId} {ao : Option Addr} {cap c2 : Nat} {l : List Int} {j len : Nat} {k : Nat} (h : A.Y its w) (hk : its[k]? = some (A.vec .u8 ao cap l)) (hs : P.underlying a = some (.slice e)) (he : P.underlying e = some (.int .u8)) (hb : P.underlying b = some .string)
    (hx : E.ev fr x = .slice (some ⟨A.bk ao, j, none⟩) len c2) (hl : j + len ≤ l.length) :
    (execOp (E.ev fr) ⟨d, .convert a b x, T, pos, af, gd⟩).run P w = .ok (.value (.string (strOfNums ((l.drop j).take len)))) w := by
  obtain ⟨o1, a1, hv⟩ := h.get hk
  show (do let r ← convert a b (E.ev fr x); pure (Next.value r) : Sem Next).run P w = _
  rw [hx]
  have hlen : ((l.drop j).take len).length = len := by rw [List.length_take, List.length_drop]; omega
  have := run_convert_bytes_arg (P := P) w a e hs he (A.bk ao) j len c2 ((l.drop j).take len) hlen (fun i hi => by
    rw [A.vec_at hv (show j + i < l.length by omega)]
    simp [List.getD, hi]) b hb
  simp only [Sem.run_bind, this, Result.andThen_ok]; rfl
/-- A whole slice of bytes, as a string, which may be empty. -/
theorem A.Y.strAll {a b e : TypeId} {ao : Option Addr} {cap c2 : Nat} {l : List Int} {k : Nat} (h : A.Y its w) (hk : its[k]? = some (A.vec .u8 ao cap l)) (hs : P.underlying a = some (.slice e)) (he : P.underlying e = some (.int .u8)) (hb : P.underlying b = some .string)
    (hx : E.ev fr x = .slice ao l.length c2) (hl : 0 < l.length) :
    (execOp (E.ev fr) ⟨d, .convert a b x, T, pos, af, gd⟩).run P w = .ok (.value (.string (strOfNums l))) w := by
  obtain ⟨o1, a1, hv⟩ := h.get hk
  have hao := A.vec_ao hv (by have := hv.1; omega)
  have := A.Y.str (P := P) (d := d) (T := T) (pos := pos) (af := af) (gd := gd) (j := 0) (len := l.length) (c2 := c2) h hk hs he hb (hao ▸ hx) (by omega)
  simpa using this
end rules
theorem E.C.know {P : Program} {n : Nat} {Q : Exit → Act → World → Prop} {S : Nat → Prop} {w0 : World} {X : World → Prop} {L : List (Nat × List Value)} {fr : E.Fr} {c : Code} {p : Prop} (h : ∀ w, E.Hp S w0 X L w → p) (k : p → E.C P n Q c fr S w0 X L) : E.C P n Q c fr S w0 X L := fun a w h1 h2 => k (h w h2) a w h1 h2
theorem E.G.know {P : Program} {n : Nat} {ops : Array Oper} {Q : Exit → Act → World → Prop} {S : Nat → Prop} {w0 : World} {X : World → Prop} {L : List (Nat × List Value)} {fr : E.Fr} {l : List Oper} {p : Prop} (h : ∀ w, E.Hp S w0 X L w → p) (k : p → E.G P n ops Q l fr S w0 X L) : E.G P n ops Q l fr S w0 X L := fun a w h1 h2 => k (h w h2) a w h1 h2
theorem A.Y.ao {w : World} {its : List A.It} {kd : IntKind} {ao : Option Addr} {cap : Nat} {l : List Int} {k : Nat} (h : A.Y its w) (hk : its[k]? = some (A.vec kd ao cap l)) (hl : 0 < l.length) : ao = some ⟨A.bk ao, 0, none⟩ := by
  obtain ⟨o1, a1, hv⟩ := h.get hk
  exact A.vec_ao hv (by have := hv.1; omega)
theorem A.Y.part {w : World} {its p r : List A.It} (h : A.Y its w) (h1 : its.Perm (p ++ r)) : A.Y p w := by
  obtain ⟨o, a, hh⟩ := h
  obtain ⟨o1, a1, o2, a2, k1, _⟩ := (hh.perm h1).append
  exact ⟨o1, a1, k1⟩
theorem A.idxP {P : Program} {fr : E.Fr} {d : Option Nat} {T : TypeId} {pos : String} {af : Array Edge} {gd : Option (Nat × Bool)} {x ix : Operand} {t e : TypeId} {ik : IntKind} {ao : Option Addr} {len c2 : Nat} {i : Nat} (hao : ao = some ⟨A.bk ao, 0, none⟩) (hu : P.underlying t = some (.slice e)) (hs : (P.info? e).map (·.size) = some 1) (hx : E.ev fr x = .slice ao len c2) (hi : E.ev fr ix = .int ik ((i : Nat) : Int)) (h1 : i < len) (w : World) :
    (execOp (E.ev fr) ⟨d, .indexAddr t x ix, T, pos, af, gd⟩).run P w = .ok (.value (.pointer (some ⟨A.bk ao, i, none⟩))) w := by
  have hx2 : E.ev fr x = .slice (some ⟨A.bk ao, 0, none⟩) len c2 := hao ▸ hx
  have := E.idxS (e := e) (d := d) (T := T) (pos := pos) (af := af) (gd := gd) (A.bk ao) 0 len c2 1 ik ((i : Nat) : Int) hu hs hx2 hi (by omega) (by omega) w
  rw [this, Int.toNat_natCast]
  congr 5; omega
/-! Integers in their plain spelling. -/
theorem Nz.add64 {x y : Nat} (h : x + y < 9223372036854775808) : IntKind.wrap .i64 (((x : Nat) : Int) + ((y : Nat) : Int)) = ((x + y : Nat) : Int) := by
  rw [IntKind.wrap_i64]; omega
theorem Nz.mul64 {x y : Nat} (h : x * y < 9223372036854775808) : IntKind.wrap .i64 (((x : Nat) : Int) * ((y : Nat) : Int)) = ((x * y : Nat) : Int) := by
  rw [← Int.natCast_mul, IntKind.wrap_i64]; omega
theorem Nz.sub64 {x y : Nat} (h : y ≤ x) (h2 : x < 9223372036854775808) : IntKind.wrap .i64 (((x : Nat) : Int) - ((y : Nat) : Int)) = ((x - y : Nat) : Int) := by
  rw [IntKind.wrap_i64]; omega
theorem Nz.add32 (x y : Nat) : IntKind.wrap .u32 (((x : Nat) : Int) + ((y : Nat) : Int)) = (((x + y) % 4294967296 : Nat) : Int) := by
  show ((x : Int) + y) % 4294967296 = _
  omega
theorem Nz.mul32 (x y : Nat) : IntKind.wrap .u32 (((x : Nat) : Int) * ((y : Nat) : Int)) = (((x * y) % 4294967296 : Nat) : Int) := by
  rw [← Int.natCast_mul]
  show ((x * y : Nat) : Int) % 4294967296 = _
  omega
theorem Nz.quo32 {x : Nat} (y : Nat) (h : x < 4294967296) : IntKind.wrap .u32 (Int.tdiv ((x : Nat) : Int) ((y : Nat) : Int)) = ((x / y : Nat) : Int) := by
  rw [Int.tdiv_eq_ediv_of_nonneg (by omega), ← Int.natCast_ediv]
  show ((x / y : Nat) : Int) % 4294967296 = _
  have : x / y ≤ x := Nat.div_le_self _ _
  generalize x / y = q at this ⊢
  omega
theorem Nz.quo64 {x : Nat} (y : Nat) (h : x < 9223372036854775808) : IntKind.wrap .i64 (Int.tdiv ((x : Nat) : Int) ((y : Nat) : Int)) = ((x / y : Nat) : Int) := by
  rw [Int.tdiv_eq_ediv_of_nonneg (by omega), ← Int.natCast_ediv, IntKind.wrap_i64]
  have : x / y ≤ x := Nat.div_le_self _ _
  generalize x / y = q at this ⊢
  omega
theorem Nz.rem (x y : Nat) : Int.tmod ((x : Nat) : Int) ((y : Nat) : Int) = ((x % y : Nat) : Int) := by
  rw [Int.tmod_eq_emod_of_nonneg (by omega)]; rfl
theorem Nz.w64 {x : Nat} (h : x < 9223372036854775808) : IntKind.wrap .i64 ((x : Nat) : Int) = ((x : Nat) : Int) := by rw [IntKind.wrap_i64]; omega
theorem Nz.w32 {x : Nat} (h : x < 4294967296) : IntKind.wrap .u32 ((x : Nat) : Int) = ((x : Nat) : Int) := by
  show (x : Int) % 4294967296 = _
  omega
theorem Nz.w8 (x : Nat) : IntKind.wrap .u8 ((x : Nat) : Int) = ((x % 256 : Nat) : Int) := by
  show (x : Int) % 256 = _
  omega
end Go.Proofs.Ytdjjjikokfadiaa
