/- What this law needs besides: see the remark ahead of each text. -/
import Derived.Test.YtglidnmmeclneaaGreatKc6
import Derived.Test.YtglidnmmeclneaaGreatRows
import Derived.WalkKit
import Derived.ProofKit
import Derived.OpenShut
import Derived.ShutString
import Derived.ChangeOld
import Derived.Below
import Derived.Carry
import Derived.ChangeMaps5
import Derived.Test.YtglidnmmeclneaaGreatProg
import Derived.ChangeKeysEq
namespace Go.Proofs.YtglidnmmeclneaaGreat
set_option linter.unusedVariables false
set_option linter.unusedSimpArgs false
open Go.ChangeShapes Go.WideShapes Go.ChangeAt Go.RowKit
open Go.ChangeMaps (open_string shut_string)
theorem laidOut : laidOutB Tryz.prog = true := by kernel_rfl
end Go.Proofs.YtglidnmmeclneaaGreat
namespace Go.Proofs.YtglidnmmeclneaaGreat
set_option linter.unusedVariables false
set_option linter.unusedSimpArgs false
open Go.RowKit
theorem R2.pre (s : ByteArray) (m : Nat) (h1 : 0 < m) (h2 : m ≤ s.size) (hn : (m : Int) = R2.Size (W.byt s.data.toList 0)) : 0 < (s.extract 0 m).size ∧ ((s.extract 0 m).size : Int) = R2.Size (W.byt (s.extract 0 m).data.toList 0) := by
  have e : (s.extract 0 m).size = m := by rw [ByteArray.size_extract]; omega
  rw [e, R2.byt_extract s m 0 h1 h2]
  exact ⟨h1, hn⟩
def K.ends (i : K.Ins) : Bool := (K.inAny i.op [(1, 4), (20, 21), (96, 109), (112, 113), (128, 128)])
theorem E.api_Trap_neq {fr : E.Fr} {x y : Operand} {u T : TypeId} {d : Option Nat} {pos : String} {af : Array Edge} {gd : Option (Nat × Bool)} {a0 a1 b0 b1 : Int} {w : World}
    (hx : E.ev fr x = .agg #[.int .i64 a0, .int .u32 a1]) (hy : E.ev fr y = .agg #[.int .i64 b0, .int .u32 b1]) :
    (execOp (E.ev fr) ⟨d, .binOp .neq 47 x y u, T, pos, af, gd⟩).run Tryz.prog w = .ok (.value (.bool (!(a0 == b0 && a1 == b1)))) w := by
  show (do let r ← (do eqGuard .neq 47 x y (E.ev fr x) (E.ev fr y); binOp .neq 47 (E.ev fr x) (E.ev fr y)); pure (Next.value r) : Sem Next).run Tryz.prog w = _
  rw [hx, hy]
  go_simp
  (repeat' split) <;> simp_all
end Go.Proofs.YtglidnmmeclneaaGreat
