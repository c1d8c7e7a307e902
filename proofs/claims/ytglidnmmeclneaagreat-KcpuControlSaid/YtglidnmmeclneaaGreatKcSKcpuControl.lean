/- What this law needs besides: see the remark ahead of each text. -/
import Derived.Test.YtglidnmmeclneaaGreatKc6
import Derived.Test.YtglidnmmeclneaaGreatRows
import Derived.WalkKit
import Derived.ProofKit
import Derived.OpenShut
import Derived.ShutString
import Derived.ChangeOld
import Derived.Below
import Derived.Carry
import Derived.ChangeMaps5
import Derived.Test.YtglidnmmeclneaaGreatProg
namespace Go.Proofs.YtglidnmmeclneaaGreat
set_option linter.unusedVariables false
set_option linter.unusedSimpArgs false
open Go.ChangeShapes Go.WideShapes Go.ChangeAt Go.RowKit
open Go.ChangeMaps (open_string shut_string)
theorem laidOut : laidOutB Tryz.prog = true := by kernel_rfl
end Go.Proofs.YtglidnmmeclneaaGreat
namespace Go.Proofs.YtglidnmmeclneaaGreat
set_option linter.unusedVariables false
set_option linter.unusedSimpArgs false
open Go.RowKit
section rules
variable {P : Program} {fr : E.Fr}
variable {T : TypeId} {d : Option Nat} {pos : String} {af : Array Edge} {gd : Option (Nat × Bool)}
end rules
theorem Q.ld_c {P : Program} {t : TypeId} {s : Q.S} {D : Nat} (hu : P.underlying t = some (.int .u32)) (h : D < 4) : E.ld P t s.cells (18 + D) = some (.int .u32 (s.c D)) := by
  rw [E.ld_one hu]
  rcases (by omega : D = 0 ∨ D = 1 ∨ D = 2 ∨ D = 3) with rfl | rfl | rfl | rfl <;> rfl
theorem Q.sto_c {P : Program} {t : TypeId} {s : Q.S} {D : Nat} {v : Int} (hi : (P.info? t).map (·.size) = some 1) (h : D < 4) : E.sto P t s.cells (18 + D) (.int .u32 v) = some ({ s with c := Q.up s.c D v } : Q.S).cells := by
  rw [E.sto_one hi (by show 18 + D < 24; omega)]
  rcases (by omega : D = 0 ∨ D = 1 ∨ D = 2 ∨ D = 3) with rfl | rfl | rfl | rfl <;> rfl
theorem R2.pre (s : ByteArray) (m : Nat) (h1 : 0 < m) (h2 : m ≤ s.size) (hn : (m : Int) = R2.Size (W.byt s.data.toList 0)) : 0 < (s.extract 0 m).size ∧ ((s.extract 0 m).size : Int) = R2.Size (W.byt (s.extract 0 m).data.toList 0) := by
  have e : (s.extract 0 m).size = m := by rw [ByteArray.size_extract]; omega
  rw [e, R2.byt_extract s m 0 h1 h2]
  exact ⟨h1, hn⟩
def K.ends (i : K.Ins) : Bool := (K.inAny i.op [(1, 4), (20, 21), (96, 109), (112, 113), (128, 128)])
end Go.Proofs.YtglidnmmeclneaaGreat
