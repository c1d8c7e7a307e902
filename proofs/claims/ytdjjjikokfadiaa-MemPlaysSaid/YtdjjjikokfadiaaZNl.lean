/- Walks: MemPlays, as a call, printed by wip/eng. No condition but what is named. -/
import Derived.Test.YtdjjjikokfadiaaProg
import Derived.Test.YtdjjjikokfadiaaZb5
namespace Go.Proofs.Ytdjjjikokfadiaa
set_option linter.unusedVariables false
set_option linter.unusedSimpArgs false
open Go.RowKit
theorem MemPlays_law (pg : Int) (coh : Bool) (hpg : 0 ≤ pg ∧ pg < 256) {ao0 : Option Addr} {ad0 : Addr} {n0 cap0 : Nat} {q0 : Nat → Int} (hao0 : 0 < n0 → ao0 = some ad0) {w : World} (f0 : ∀ a v, M.byF ad0 n0 q0 a v → w.cell? a = some v) {ao1 : Option Addr} {ad1 : Addr} {n1 cap1 : Nat} {q1 : Nat → M.Op} (hao1 : 0 < n1 → ao1 = some ad1) (f1 : ∀ a v, M.opF ad1 n1 q1 a v → w.cell? a = some v) : Calls Try.prog 8 #[.int .u8 pg, .bool coh, .agg #[.slice ao0 n0 cap0, .slice ao1 n1 cap1]] w fun e w' => e = .returned (.bool true) ∧ Bel w w' := MemPlays_rd pg hpg coh hao0 hao1 w _ _ (A.facts2 f0 f1)
end Go.Proofs.Ytdjjjikokfadiaa
