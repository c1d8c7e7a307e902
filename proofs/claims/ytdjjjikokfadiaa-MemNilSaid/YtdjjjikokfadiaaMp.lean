/- mem: two pages compared. No condition. -/
import Derived.Test.YtdjjjikokfadiaaMo
import Derived.ChangeKeysEq
namespace Go.Proofs.Ytdjjjikokfadiaa
set_option linter.unusedVariables false
set_option linter.unusedSimpArgs false
open Go.RowKit
def M.eqv (f g : Nat → Int) (l : List Nat) : Bool := l.all fun i => f i == g i
theorem M.run_items (w : World) (d : Nat) (f g : Nat → Int) : ∀ (is : List Nat), (∀ i ∈ is, i < 256) → (Op.eqItems (d + 1) 5 1 (M.pgv f).toArray (M.pgv g).toArray is).run Try.prog w = .ok (M.eqv f g is) w
  | [], _ => by simp [Op.eqItems, M.eqv]
  | i :: is, h => by
    have hi : i < 256 := h i (by simp)
    have ih := M.run_items w d f g is fun j hj => h j (by simp [hj])
    have ha : (isAgg 5).run Try.prog w = .ok false w := M.one Try.underlying5 rfl
    have p : ∀ f : Nat → Int, (part 5 (M.pgv f).toArray (i * 1)).run Try.prog w = .ok (.int .u8 (f i)) w := fun f => by
      have hg : (M.pgv f)[i]? = some (.int .u8 (f i)) := M.pgv_at f hi
      simp [part, ha, hg]
    have e := run_equalIn_int (P := Try.prog) w d 5 .u8 .u8 (f i) (g i) Try.underlying5
    simp only [Op.eqItems, Sem.run_bind, p, e, Result.andThen_ok]
    unfold M.eqv at ih ⊢
    rw [List.all_cons]
    cases hq : (f i == g i) with
    | true => simpa using ih
    | false => simp
theorem M.run_pages (w : World) (f g : Nat → Int) : (Op.equal 72 (.agg (M.pgv f).toArray) (.agg (M.pgv g).toArray)).run Try.prog w = .ok (M.eqv f g (List.range 256)) w := by
  have hi : ∃ i, Try.prog.info? 5 = some i := by
    cases h : Try.prog.info? 5 with
    | some i => exact ⟨i, rfl⟩
    | none => have : (Try.prog.info? 5).isSome = true := by kernel_rfl
              rw [h] at this; cases this
  obtain ⟨i, hi⟩ := hi
  have h := run_equalIn_array (P := Try.prog) w 9999 (M.pgv f).toArray (M.pgv g).toArray Try.underlying72 hi
  have hc : Try.prog.cellsOf 5 = 1 := by kernel_rfl
  rw [hc, M.run_items w 9998 f g (List.range 256) (by simp)] at h
  exact h
end Go.Proofs.Ytdjjjikokfadiaa
