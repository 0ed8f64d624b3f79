/- Closed facts of the row of 'CheckRuns', part 2. No condition. -/
import Derived.Test.YtaghknkbkcmmiaaGreatDoorCards
import Derived.JoinedCond
import Derived.SevenTiedAt
import Derived.KernelRfl
namespace Go.Proofs.YtaghknkbkcmmiaaGreatDoor.checkRuns
open Go
set_option maxRecDepth 1000000
theorem q9 : ((Rows.checkRunsRow.inPlace == Tryz.pinned.checked.prog.inPlace 3)) = true := by kernel_rfl
end Go.Proofs.YtaghknkbkcmmiaaGreatDoor.checkRuns
