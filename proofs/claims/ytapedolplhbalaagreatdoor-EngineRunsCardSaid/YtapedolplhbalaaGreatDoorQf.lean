/- Closed facts of the row of 'EngineRuns', part 6. No condition. -/
import Derived.Test.YtapedolplhbalaaGreatDoorCards
import Derived.JoinedCond
import Derived.SevenTiedAt
import Derived.KernelRfl
namespace Go.Proofs.YtapedolplhbalaaGreatDoor.engineRuns
open Go
set_option maxRecDepth 1000000
theorem q25 : (Tryz.pinned.checked.prog.mayEnter) = true := by kernel_rfl
end Go.Proofs.YtapedolplhbalaaGreatDoor.engineRuns
