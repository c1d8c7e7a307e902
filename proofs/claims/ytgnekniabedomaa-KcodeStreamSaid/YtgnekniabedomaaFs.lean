/- Arguments that are rows of integers, or structs of integers, are opened into their integers; a string within the reach. -/
import Derived.Test.YtgnekniabedomaaFr
import Derived.Lib.SmallJoins
import Derived.SizedLaws
namespace Go.Proofs.Ytgnekniabedomaa
set_option linter.unusedVariables false
set_option linter.unusedSimpArgs false
open Go.Joins Go.ChangeShapes Go.WideShapes Go.ChangeAt Go.RowKit Go.Deep
theorem open_row {H : Type} {enc : TypeId × Value → H} {P : Program} {w : World} {base : Nat} {spare : Nat → Bool} {held : Bool} {r : Reach} {b0 : Nat} {t e : TypeId} {k : IntKind} {n : Nat} {v : Value} {d : DataW H} {ps : List MemPlace}
    (ht : P.underlying t = some (.array n e)) (he : P.underlying e = some (.int k)) (hc : P.cellsOf e = 1) (hct : P.cellsOf t = n) (hval : Value.okWide P w r b0 t v) (hd : DataW.Trod enc P w base spare held t v d ps) :
    ∃ l : List Int, l.length = n ∧ v = .agg (l.map (.int k)).toArray ∧ ∀ x ∈ l, (Lit.int k x).wf = true := by
  obtain ⟨fuel, hf⟩ := hd
  have hv : ∃ cs, v = .agg cs ∧ cs.size = P.cellsOf t ∧ Row.okWide P w r b0 t cs := by
    unfold Value.okWide at hval; rw [ht] at hval; exact hval
  obtain ⟨cs, rfl, hs, _⟩ := hv
  obtain ⟨xs, m, _, _, hl, hx, hel⟩ := DataW.trod_array ht hf
  rw [hct] at hs
  have key : ∀ i, i < n → ∃ a, cs[i]? = some (.int k a) ∧ (Lit.int k a).wf = true := by
    intro i hi
    have h0 := hel i hi
    rw [hc, Nat.mul_one, List.getElem?_eq_getElem (by omega)] at h0
    obtain ⟨a, ea, _, wa⟩ := DataW.trod_int he h0
    refine ⟨a, ?_, wa⟩
    have hsz : i < cs.size := by omega
    have h2 : (cs.toList.drop i).take 1 = [cs[i]] := by
      rw [List.drop_eq_getElem_cons (by simpa using hsz)]; simp
    have h3 : (cs.toList.drop i).take 1 = [.int k a] := ea
    rw [h2] at h3
    rw [Array.getElem?_eq_getElem hsz]
    exact congrArg some (List.cons.inj h3).1
  have key2 : ∃ f : Nat → Int, ∀ i, i < n → cs[i]? = some (.int k (f i)) ∧ (Lit.int k (f i)).wf = true := by
    refine ⟨fun i => if h : i < n then (key i h).choose else 0, fun i h => ?_⟩
    have := (key i h).choose_spec
    simp only [h, dif_pos]
    exact this
  obtain ⟨f, hf⟩ := key2
  refine ⟨(List.range n).map f, by simp, ?_, fun x hx => ?_⟩
  · congr 1
    apply Array.ext_getElem?
    intro i
    by_cases hi : i < n
    · rw [(hf i hi).1]; simp [List.getElem?_range, hi]
    · rw [Array.getElem?_eq_none (by omega)]; simp [hi]
  · obtain ⟨i, hi, rfl⟩ := List.mem_map.1 hx
    exact (hf i (List.mem_range.1 hi)).2
theorem open_five {H : Type} {enc : TypeId × Value → H} {P : Program} {w : World} {base : Nat} {spare : Nat → Bool} {held : Bool} {r : Reach} {b0 : Nat} {t e : TypeId} {k : IntKind} {v : Value} {d : DataW H} {ps : List MemPlace}
    (ht : P.underlying t = some (.array 5 e)) (he : P.underlying e = some (.int k)) (hc : P.cellsOf e = 1) (hct : P.cellsOf t = 5) (hval : Value.okWide P w r b0 t v) (hd : DataW.Trod enc P w base spare held t v d ps) :
    ∃ a b c x y : Int, v = .agg #[.int k a, .int k b, .int k c, .int k x, .int k y] ∧ (Lit.int k a).wf = true ∧ (Lit.int k b).wf = true ∧ (Lit.int k c).wf = true ∧ (Lit.int k x).wf = true ∧ (Lit.int k y).wf = true := by
  obtain ⟨l, hl, rfl, hw⟩ := open_row ht he hc hct hval hd
  match l, hl with
  | [a, b, c, x, y], _ => exact ⟨a, b, c, x, y, rfl, hw _ (by simp), hw _ (by simp), hw _ (by simp), hw _ (by simp), hw _ (by simp)⟩
theorem open_fields {H : Type} {enc : TypeId × Value → H} {P : Program} {w : World} {base : Nat} {spare : Nat → Bool} {held : Bool} {r : Reach} {b0 : Nat} {t : TypeId} {fs : Array Field} {v : Value} {d : DataW H} {ps : List MemPlace}
    (ht : P.underlying t = some (.struct fs)) (hone : oneCellFields P fs = true) (hC : P.cellsOf t = fs.size) (hval : Value.okWide P w r b0 t v) (hd : DataW.Trod enc P w base spare held t v d ps) :
    ∃ cs : Array Value, v = .agg cs ∧ cs.size = fs.size ∧ ∀ (i : Nat) (f : Field) (k : IntKind), fs[i]? = some f → P.underlying f.type = some (.int k) → ∃ n, cs[i]? = some (.int k n) ∧ (Lit.int k n).wf = true := by
  obtain ⟨cs, rfl, hsz⟩ := okWide_struct ht hval
  obtain ⟨fuel, hf⟩ := hd
  obtain ⟨xs, n, _, hx, _, hlen, hg⟩ := DataW.trod_struct ht hf
  refine ⟨cs, rfl, hsz.trans hC, fun i f k hi hk => ?_⟩
  obtain ⟨o, kk⟩ := hone_of hone i f hi
  have h1 := hg i f hi
  have hil : i < fs.size := (Array.getElem?_eq_some_iff.1 hi).1
  rw [o, kk, List.getElem?_eq_getElem (by omega)] at h1
  obtain ⟨a, ea, _, wa⟩ := DataW.trod_int hk h1
  refine ⟨a, ?_, wa⟩
  have hi2 : i < cs.size := by have := hsz.trans hC; omega
  have h2 : (cs.toList.drop i).take 1 = [cs[i]] := by
    rw [List.drop_eq_getElem_cons (by simpa using hi2)]; simp
  have h3 : (cs.toList.drop i).take 1 = [.int k a] := ea
  rw [h2] at h3
  rw [Array.getElem?_eq_getElem hi2]
  exact congrArg some (List.cons.inj h3).1
theorem array7 {α : Type} {cs : Array α} (h : cs.size = 7) : ∃ a b c d e f g, cs = #[a, b, c, d, e, f, g] := by
  obtain ⟨l⟩ := cs
  match l, h with
  | [a, b, c, d, e, f, g], _ => exact ⟨a, b, c, d, e, f, g, rfl⟩
theorem open_seven {H : Type} {enc : TypeId × Value → H} {P : Program} {w : World} {base : Nat} {spare : Nat → Bool} {held : Bool} {r : Reach} {b0 : Nat} {t : TypeId} {f0 f1 f2 f3 f4 f5 f6 : Field} {k0 k1 k2 k3 k4 k5 k6 : IntKind} {v : Value} {d : DataW H} {ps : List MemPlace}
    (ht : P.underlying t = some (.struct #[f0, f1, f2, f3, f4, f5, f6])) (hone : oneCellFields P #[f0, f1, f2, f3, f4, f5, f6] = true) (hC : P.cellsOf t = 7)
    (h0 : P.underlying f0.type = some (.int k0)) (h1 : P.underlying f1.type = some (.int k1)) (h2 : P.underlying f2.type = some (.int k2)) (h3 : P.underlying f3.type = some (.int k3)) (h4 : P.underlying f4.type = some (.int k4)) (h5 : P.underlying f5.type = some (.int k5)) (h6 : P.underlying f6.type = some (.int k6))
    (hval : Value.okWide P w r b0 t v) (hd : DataW.Trod enc P w base spare held t v d ps) :
    ∃ n0 n1 n2 n3 n4 n5 n6 : Int, v = .agg #[.int k0 n0, .int k1 n1, .int k2 n2, .int k3 n3, .int k4 n4, .int k5 n5, .int k6 n6] ∧ (Lit.int k5 n5).wf = true := by
  obtain ⟨cs, rfl, hs, hg⟩ := open_fields ht hone hC hval hd
  obtain ⟨a0, a1, a2, a3, a4, a5, a6, rfl⟩ := array7 hs
  obtain ⟨n0, e0, -⟩ := hg 0 f0 k0 rfl h0
  obtain ⟨n1, e1, -⟩ := hg 1 f1 k1 rfl h1
  obtain ⟨n2, e2, -⟩ := hg 2 f2 k2 rfl h2
  obtain ⟨n3, e3, -⟩ := hg 3 f3 k3 rfl h3
  obtain ⟨n4, e4, -⟩ := hg 4 f4 k4 rfl h4
  obtain ⟨n5, e5, w5⟩ := hg 5 f5 k5 rfl h5
  obtain ⟨n6, e6, -⟩ := hg 6 f6 k6 rfl h6
  obtain rfl := Option.some.inj e0
  obtain rfl := Option.some.inj e1
  obtain rfl := Option.some.inj e2
  obtain rfl := Option.some.inj e3
  obtain rfl := Option.some.inj e4
  obtain rfl := Option.some.inj e5
  obtain rfl := Option.some.inj e6
  exact ⟨n0, n1, n2, n3, n4, n5, n6, rfl, w5⟩
end Go.Proofs.Ytgnekniabedomaa
