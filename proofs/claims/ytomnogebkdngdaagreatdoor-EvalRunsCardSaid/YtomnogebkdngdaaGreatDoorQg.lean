/- Closed facts of the row of 'EvalRuns', part 7. No condition. -/
import Derived.Test.YtomnogebkdngdaaGreatDoorCards
import Derived.JoinedCond
import Derived.SevenTiedAt
import Derived.KernelRfl
namespace Go.Proofs.YtomnogebkdngdaaGreatDoor.evalRuns
open Go
set_option maxRecDepth 1000000
theorem harness : Tryz.pinned.checked.prog.mainIs = some ((true, "70337d47e60d4f231bb37b061d9bf44b402b64841cb189a51417c980d57d07fd").1, (true, "70337d47e60d4f231bb37b061d9bf44b402b64841cb189a51417c980d57d07fd").2.toList) := by kernel_rfl
end Go.Proofs.YtomnogebkdngdaaGreatDoor.evalRuns
