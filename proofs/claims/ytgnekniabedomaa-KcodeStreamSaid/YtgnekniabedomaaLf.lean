/- A slice of rows of five integers, opened; the law KcodeStream over it. -/
import Derived.Test.YtgnekniabedomaaFs
import Derived.Test.YtgnekniabedomaaLe
namespace Go.Proofs.Ytgnekniabedomaa
set_option linter.unusedVariables false
set_option linter.unusedSimpArgs false
open Go.Joins Go.ChangeShapes Go.WideShapes Go.ChangeAt Go.RowKit Go.Deep
theorem K.open_rows {H : Type} {enc : TypeId × Value → H} {P : Program} {w : World} {base : Nat} {spare : Nat → Bool} {held : Bool} {r : Reach} {b0 : Nat} {t e u : TypeId} {v : Value} {d : DataW H} {ps : List MemPlace}
    (ht : P.underlying t = some (.slice e)) (he : P.underlying e = some (.array 5 u)) (hu : P.underlying u = some (.int .i64)) (hc : P.cellsOf u = 1) (hce : P.cellsOf e = 5) (hval : Value.okWide P w r b0 t v) (hd : DataW.Trod enc P w base spare held t v d ps) :
    v = .slice none 0 0 ∨ ∃ ad n cap q, v = .slice (some ad) n cap ∧ K.Rows ad n q w := by
  obtain ⟨fuel, hf⟩ := hd
  obtain ⟨a, len, cap, rfl⟩ := okWide_slice ht hval
  rcases open_slice ht hf with ⟨hcs, _⟩ | ⟨ad, len', cap', m, n, D, Pl, hcs, hb, hl, hm, hmm, _, hi⟩
  · left
    simpa [Value.cells] using hcs
  · right
    have e1 : (.slice a len cap : Value) = .slice (some ad) len' cap' := by simpa [Value.cells] using hcs
    have key : ∀ i, i < len' → ∃ f : Nat → Int, ∀ j, j < 5 → w.cell? ((ad.add (i * 5)).add j) = some (.int .i64 (f j)) := by
      intro i hil
      obtain ⟨cs', hc', ht'⟩ := hi i (by rw [hmm]; split <;> omega)
      rw [hce] at hc'
      obtain ⟨_, hlen, hat⟩ := World.cells?_some hc'
      obtain ⟨xs, mm, _, _, _, hx, hel⟩ := DataW.trod_array he ht'
      have k2 : ∀ j, j < 5 → ∃ x, w.cell? ((ad.add (i * 5)).add j) = some (.int .i64 x) := by
        intro j hj
        have h0 := hel j hj
        rw [hc, Nat.mul_one, List.getElem?_eq_getElem (by omega)] at h0
        obtain ⟨x, ex, _, _⟩ := DataW.trod_int hu h0
        refine ⟨x, ?_⟩
        rw [hat j hj]
        have h2 : (cs'.drop j).take 1 = [cs'[j]'(by omega)] := by rw [List.drop_eq_getElem_cons (by omega)]; rfl
        rw [h2] at ex
        rw [List.getElem?_eq_getElem (by omega)]
        exact congrArg some (List.cons.inj ex).1
      exact ⟨fun j => if h : j < 5 then (k2 j h).choose else 0, fun j hj => by
        have := (k2 j hj).choose_spec
        simp only [hj, dif_pos]; exact this⟩
    exact ⟨ad, len', cap', fun i => if h : i < len' then (key i h).choose else fun _ => 0, e1, fun i hil j hj => by
      have := (key i hil).choose_spec j hj
      simp only [hil, dif_pos]; exact this⟩
theorem KcodeStream_both (v : Value) (w : World) (h : v = .slice none 0 0 ∨ ∃ ad n cap q, v = .slice (some ad) n cap ∧ K.Rows ad n q w) : Calls Try.prog 8 #[v] w fun e w' => e = .returned (.bool true) ∧ Bel w w' := by
  rcases h with rfl | ⟨ad, n, cap, q, rfl, hr⟩
  · exact KcodeStream_nil w
  · exact KcodeStream_law ad n cap q w hr
end Go.Proofs.Ytgnekniabedomaa
