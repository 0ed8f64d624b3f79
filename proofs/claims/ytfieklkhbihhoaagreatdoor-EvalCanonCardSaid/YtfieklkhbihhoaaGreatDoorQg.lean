/- Closed facts of the row of 'EvalCanon', part 7. No condition. -/
import Derived.Test.YtfieklkhbihhoaaGreatDoorCards
import Derived.JoinedCond
import Derived.SevenTiedAt
import Derived.KernelRfl
namespace Go.Proofs.YtfieklkhbihhoaaGreatDoor.evalCanon
open Go
set_option maxRecDepth 1000000
theorem harness : Tryz.pinned.checked.prog.mainIs = some ((true, "093b7f233bfe040c1f53f48ab778fcbd1cefa4e74ac541455e80092bff27887f").1, (true, "093b7f233bfe040c1f53f48ab778fcbd1cefa4e74ac541455e80092bff27887f").2.toList) := by kernel_rfl
end Go.Proofs.YtfieklkhbihhoaaGreatDoor.evalCanon
