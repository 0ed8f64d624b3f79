/- Closed facts of the row of 'EngineRuns', part 2. No condition. -/
import Derived.Test.YtapedolplhbalaaGreatDoorCards
import Derived.JoinedCond
import Derived.SevenTiedAt
import Derived.KernelRfl
import Derived.Test.YtapedolplhbalaaGreatDoorCl
namespace Go.Proofs.YtapedolplhbalaaGreatDoor.engineRuns
open Go
set_option maxRecDepth 1000000
theorem q9 : ((Rows.engineRunsRow.inPlace == Tryz.pinned.checked.prog.inPlace 3)) = true := by
  have e : Tryz.pinned.checked.prog.closure 3 = clR := closR
  unfold Program.inPlace
  rw [e]
  show _ = true
  kernel_rfl
end Go.Proofs.YtapedolplhbalaaGreatDoor.engineRuns
