/- Closed facts of the row of 'CheckRuns', part 3. No condition. -/
import Derived.Test.YtaghknkbkcmmiaaGreatDoorCards
import Derived.JoinedCond
import Derived.SevenTiedAt
import Derived.KernelRfl
namespace Go.Proofs.YtaghknkbkcmmiaaGreatDoor.checkRuns
open Go
set_option maxRecDepth 1000000
theorem q10 : ((Rows.checkRunsRow.unfollowed == Tryz.pinned.checked.prog.unfollowed 3)) = true := by kernel_rfl
end Go.Proofs.YtaghknkbkcmmiaaGreatDoor.checkRuns
