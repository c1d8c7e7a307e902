/- Walks: MemRights, as a call, printed by wip/eng. No condition but what is named. -/
import Derived.Test.YtdjjjikokfadiaaProg
import Derived.Test.YtdjjjikokfadiaaZNw
namespace Go.Proofs.Ytdjjjikokfadiaa
set_option linter.unusedVariables false
set_option linter.unusedSimpArgs false
open Go.RowKit
theorem A.Has.nil (w : World) : A.Has [] w (fun _ => False) (fun _ => False) := ⟨fun _ h => h, fun _ h => h⟩
theorem MemRights_law (r0 r1 r2 r3 a s : Int) (h0 : 0 ≤ r0 ∧ r0 < 256) (h1 : 0 ≤ r1 ∧ r1 < 256) (h2 : 0 ≤ r2 ∧ r2 < 256) (h3 : 0 ≤ r3 ∧ r3 < 256) (ha : 0 ≤ a ∧ a < 4294967296) (hs : 0 ≤ s ∧ s < 256) (w : World) : Calls Try.prog 3 #[.agg #[.int .u8 r0, .int .u8 r1, .int .u8 r2, .int .u8 r3], .int .u32 a, .int .u8 s] w fun e w' => e = .returned (.bool true) ∧ Bel w w' := by
  obtain ⟨b, rfl⟩ := Int.eq_ofNat_of_zero_le ha.1
  obtain ⟨y, rfl⟩ := Int.eq_ofNat_of_zero_le hs.1
  exact MemRights_rd r0 r1 r2 r3 h0 h1 h2 h3 b y (by omega) (by omega) w _ _ (A.Has.nil w)
end Go.Proofs.Ytdjjjikokfadiaa
