/- Closed facts of the row of 'EvalRuns', part 4. No condition. -/
import Derived.Test.YtomnogebkdngdaaGreatDoorCards
import Derived.JoinedCond
import Derived.SevenTiedAt
import Derived.KernelRfl
namespace Go.Proofs.YtomnogebkdngdaaGreatDoor.evalRuns
open Go
set_option maxRecDepth 1000000
theorem q11 : ((Rows.evalRunsRow.recurses == Tryz.pinned.checked.prog.recurses 3)) = true := by kernel_rfl
end Go.Proofs.YtomnogebkdngdaaGreatDoor.evalRuns
