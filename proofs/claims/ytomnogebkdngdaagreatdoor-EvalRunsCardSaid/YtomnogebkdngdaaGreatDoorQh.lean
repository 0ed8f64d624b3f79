/- Closed facts of the row of 'EvalRuns', part 8. No condition. -/
import Derived.Test.YtomnogebkdngdaaGreatDoorCards
import Derived.JoinedCond
import Derived.SevenTiedAt
import Derived.KernelRfl
namespace Go.Proofs.YtomnogebkdngdaaGreatDoor.evalRuns
open Go
set_option maxRecDepth 1000000
theorem goes : false = Rows.evalRunsRow.goesBy Tryz.pinned.checked.prog := by kernel_rfl
end Go.Proofs.YtomnogebkdngdaaGreatDoor.evalRuns
