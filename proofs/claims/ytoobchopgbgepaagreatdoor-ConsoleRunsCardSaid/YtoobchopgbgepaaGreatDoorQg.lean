/- Closed facts of the row of 'ConsoleRuns', part 7. No condition. -/
import Derived.Test.YtoobchopgbgepaaGreatDoorCards
import Derived.JoinedCond
import Derived.SevenTiedAt
import Derived.KernelRfl
namespace Go.Proofs.YtoobchopgbgepaaGreatDoor.consoleRuns
open Go
set_option maxRecDepth 1000000
theorem harness : Tryz.pinned.checked.prog.mainIs = some ((true, "e65b0115184964a1514fe6d999d9d42a499c78ca254358307f6a23b3d4a1f90c").1, (true, "e65b0115184964a1514fe6d999d9d42a499c78ca254358307f6a23b3d4a1f90c").2.toList) := by kernel_rfl
end Go.Proofs.YtoobchopgbgepaaGreatDoor.consoleRuns
