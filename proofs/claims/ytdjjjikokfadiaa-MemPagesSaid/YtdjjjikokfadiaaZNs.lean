/- Walks: MemPages, as a call, printed by wip/eng. No condition but what is named. -/
import Derived.Test.YtdjjjikokfadiaaProg
import Derived.Test.YtdjjjikokfadiaaZNr
namespace Go.Proofs.Ytdjjjikokfadiaa
set_option linter.unusedVariables false
set_option linter.unusedSimpArgs false
open Go.RowKit
theorem MemPages_law (n : Int) {ao0 : Option Addr} {ad0 : Addr} {n0 cap0 : Nat} {q0 : Nat → M.Op} (hao0 : 0 < n0 → ao0 = some ad0) {w : World} (f0 : ∀ a v, M.opF ad0 n0 q0 a v → w.cell? a = some v) : Calls Try.prog 5 #[.slice ao0 n0 cap0, .int .i64 n] w fun e w' => e = .returned (.bool true) ∧ Bel w w' := MemPages_rd n hao0 w _ _ (A.facts_has f0)
end Go.Proofs.Ytdjjjikokfadiaa
