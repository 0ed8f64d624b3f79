/- Closed facts of the row of 'CheckRuns', part 8. No condition. -/
import Derived.Test.YtaghknkbkcmmiaaGreatDoorCards
import Derived.JoinedCond
import Derived.SevenTiedAt
import Derived.KernelRfl
namespace Go.Proofs.YtaghknkbkcmmiaaGreatDoor.checkRuns
open Go
set_option maxRecDepth 1000000
theorem goes : false = Rows.checkRunsRow.goesBy Tryz.pinned.checked.prog := by kernel_rfl
end Go.Proofs.YtaghknkbkcmmiaaGreatDoor.checkRuns
