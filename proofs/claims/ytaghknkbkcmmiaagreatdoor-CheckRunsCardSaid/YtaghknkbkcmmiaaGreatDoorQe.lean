/- Closed facts of the row of 'CheckRuns', part 5. No condition. -/
import Derived.Test.YtaghknkbkcmmiaaGreatDoorCards
import Derived.JoinedCond
import Derived.SevenTiedAt
import Derived.KernelRfl
namespace Go.Proofs.YtaghknkbkcmmiaaGreatDoor.checkRuns
open Go
set_option maxRecDepth 1000000
theorem q12 : ((Rows.checkRunsRow.named == Tryz.pinned.checked.prog.varsNamed 3)) = true := by kernel_rfl
end Go.Proofs.YtaghknkbkcmmiaaGreatDoor.checkRuns
