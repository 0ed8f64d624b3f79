/- Closed facts of the row of 'ConsoleRuns', part 6. No condition. -/
import Derived.Test.YtoobchopgbgepaaGreatDoorCards
import Derived.JoinedCond
import Derived.SevenTiedAt
import Derived.KernelRfl
namespace Go.Proofs.YtoobchopgbgepaaGreatDoor.consoleRuns
open Go
set_option maxRecDepth 1000000
theorem q25 : (Tryz.pinned.checked.prog.mayEnter) = true := by kernel_rfl
end Go.Proofs.YtoobchopgbgepaaGreatDoor.consoleRuns
