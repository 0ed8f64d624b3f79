/- Closed facts of the row of 'EngineRuns', part 7. No condition. -/
import Derived.Test.YtapedolplhbalaaGreatDoorCards
import Derived.JoinedCond
import Derived.SevenTiedAt
import Derived.KernelRfl
namespace Go.Proofs.YtapedolplhbalaaGreatDoor.engineRuns
open Go
set_option maxRecDepth 1000000
theorem harness : Tryz.pinned.checked.prog.mainIs = some ((true, "5f3b330c2fcd0ab45525ac2e0f0e4ed0f5f1e7d1271494db37580d5e7161919b").1, (true, "5f3b330c2fcd0ab45525ac2e0f0e4ed0f5f1e7d1271494db37580d5e7161919b").2.toList) := by kernel_rfl
end Go.Proofs.YtapedolplhbalaaGreatDoor.engineRuns
