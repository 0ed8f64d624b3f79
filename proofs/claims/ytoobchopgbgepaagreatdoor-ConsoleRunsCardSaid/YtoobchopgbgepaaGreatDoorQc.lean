/- Closed facts of the row of 'ConsoleRuns', part 3. No condition. -/
import Derived.Test.YtoobchopgbgepaaGreatDoorCards
import Derived.JoinedCond
import Derived.SevenTiedAt
import Derived.KernelRfl
import Derived.Test.YtoobchopgbgepaaGreatDoorCl
namespace Go.Proofs.YtoobchopgbgepaaGreatDoor.consoleRuns
open Go
set_option maxRecDepth 1000000
theorem q10 : ((Rows.consoleRunsRow.unfollowed == Tryz.pinned.checked.prog.unfollowed 3)) = true := by
  have e : Tryz.pinned.checked.prog.closure 3 = clR := closR
  unfold Program.unfollowed
  rw [e]
  show _ = true
  kernel_rfl
end Go.Proofs.YtoobchopgbgepaaGreatDoor.consoleRuns
