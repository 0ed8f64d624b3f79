/- Closed facts of the row of 'ConsoleRuns', part 5. No condition. -/
import Derived.Test.YtoobchopgbgepaaGreatDoorCards
import Derived.JoinedCond
import Derived.SevenTiedAt
import Derived.KernelRfl
import Derived.Test.YtoobchopgbgepaaGreatDoorCl
namespace Go.Proofs.YtoobchopgbgepaaGreatDoor.consoleRuns
open Go
set_option maxRecDepth 1000000
theorem q12 : ((Rows.consoleRunsRow.named == Tryz.pinned.checked.prog.varsNamed 3)) = true := by
  have e : Tryz.pinned.checked.prog.closure 3 = clR := closR
  unfold Program.varsNamed
  rw [e]
  show _ = true
  kernel_rfl
end Go.Proofs.YtoobchopgbgepaaGreatDoor.consoleRuns
