/- mem: two page pointers compared. No condition. -/
import Derived.Test.YtdjjjikokfadiaaMp
import Derived.LaidEqlPtr
namespace Go.Proofs.Ytdjjjikokfadiaa
set_option linter.unusedVariables false
set_option linter.unusedSimpArgs false
open Go.RowKit
theorem M.cells_of {w : World} {p : Nat} {v : Value} (h : w.cell? ⟨p, 0, none⟩ = some v) : ∃ c t z, w.heap[p]? = some (.cells c t z) := by
  rw [World.cell?] at h
  cases hq : w.heap[p]? with
  | none => simp only [hq] at h; cases h
  | some o =>
    simp only [hq] at h
    cases o with
    | cells c t z => exact ⟨c, t, z, rfl⟩
    | _ => simp at h
theorem M.run_same_ne {P : Program} {w : World} {p q : Nat} {u v : Value} (hne : p ≠ q) (hp : w.cell? ⟨p, 0, none⟩ = some u) (hq : w.cell? ⟨q, 0, none⟩ = some v) (fp : ∀ i, w.frozen? ⟨p, i, none⟩ = false) (fq : ∀ i, w.frozen? ⟨q, i, none⟩ = false) :
    (sameAddr ⟨p, 0, none⟩ ⟨q, 0, none⟩).run P w = .ok false w := by
  obtain ⟨c1, t1, z1, e1⟩ := M.cells_of hp
  obtain ⟨c2, t2, z2, e2⟩ := M.cells_of hq
  have h1 := fp 0
  have h2 := fp c1.size
  have h3 := fq 0
  have h4 := fq c2.size
  simp [sameAddr, hne, h1, h3, noView, viewAt, World.shape?, e1, e2, mayBeOne, stringish, h2, h4]
theorem M.ptr_eq {w : World} {p q : Nat} {u v : Value} {fr : E.Fr} {d : Option Nat} {T U : TypeId} {pos : String} {af : Array Edge} {gd : Option (Nat × Bool)} {x y : Operand} (hx : E.ev fr x = .pointer (some ⟨p, 0, none⟩)) (hy : E.ev fr y = .pointer (some ⟨q, 0, none⟩)) (hp : w.cell? ⟨p, 0, none⟩ = some u) (hq : w.cell? ⟨q, 0, none⟩ = some v) (fp : ∀ i, w.frozen? ⟨p, i, none⟩ = false) (fq : ∀ i, w.frozen? ⟨q, i, none⟩ = false) :
    (execOp (E.ev fr) ⟨d, .binOp .eql 70 x y U, T, pos, af, gd⟩).run Try.prog w = .ok (.value (.bool (p == q))) w := by
  have hi : ∃ i, Try.prog.info? 72 = some i ∧ i.size ≠ 0 := by
    have hz : (Try.prog.info? 72).map (·.size) = some 256 := by kernel_rfl
    cases h : Try.prog.info? 72 with
    | some i => rw [h] at hz; exact ⟨i, rfl, by have : i.size = 256 := Option.some.inj hz; omega⟩
    | none => rw [h] at hz; cases hz
  obtain ⟨i, hi, hz⟩ := hi
  have hu : Try.prog.underlying 70 = some (.pointer 72) := Try.underlying70
  have he : (Op.equal 70 (.pointer (some ⟨p, 0, none⟩)) (.pointer (some ⟨q, 0, none⟩))).run Try.prog w = .ok (p == q) w := by
    have h : ∀ d : Nat, (Op.equalIn (d + 1) 70 (.pointer (some ⟨p, 0, none⟩)) (.pointer (some ⟨q, 0, none⟩))).run Try.prog w = .ok (p == q) w := fun d => by
      by_cases e : p = q
      · subst e
        simp [Op.equalIn, run_underlying hu, sizeOf, typeInfo, hi, hz, run_sameAddr_same]
      · simp [Op.equalIn, run_underlying hu, sizeOf, typeInfo, hi, hz, M.run_same_ne e hp hq fp fq, e]
    simp [Op.equal, Op.maxDepth, h 9999]
  show (do let r ← (do eqGuard .eql 70 x y (E.ev fr x) (E.ev fr y); binOp .eql 70 (E.ev fr x) (E.ev fr y)); pure (Next.value r) : Sem Next).run Try.prog w = _
  rw [hx, hy]
  simp [eqGuard, binOp, he]
theorem M.pg_eql {w : World} {f g : Nat → Int} {fr : E.Fr} {d : Option Nat} {T U : TypeId} {pos : String} {af : Array Edge} {gd : Option (Nat × Bool)} {x y : Operand} (hx : E.ev fr x = .agg (M.pgv f).toArray) (hy : E.ev fr y = .agg (M.pgv g).toArray) :
    (execOp (E.ev fr) ⟨d, .binOp .eql 72 x y U, T, pos, af, gd⟩).run Try.prog w = .ok (.value (.bool (M.eqv f g (List.range 256)))) w := by
  have hg : Try.prog.eqGuardType Try.prog.depth 72 = false := by kernel_rfl
  show (do let r ← (do eqGuard .eql 72 x y (E.ev fr x) (E.ev fr y); binOp .eql 72 (E.ev fr x) (E.ev fr y)); pure (Next.value r) : Sem Next).run Try.prog w = _
  rw [hx, hy]
  simp [eqGuard, hg, binOp, M.run_pages]
end Go.Proofs.Ytdjjjikokfadiaa
