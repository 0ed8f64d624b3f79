/- Closed facts of the row of 'ProfileRuns', part 2. No condition. -/
import Derived.Test.YtlmoljejdakdbaaGreatDoorCards
import Derived.JoinedCond
import Derived.SevenTiedAt
import Derived.KernelRfl
namespace Go.Proofs.YtlmoljejdakdbaaGreatDoor.profileRuns
open Go
set_option maxRecDepth 1000000
theorem q9 : ((Rows.profileRunsRow.inPlace == Tryz.pinned.checked.prog.inPlace 3)) = true := by kernel_rfl
end Go.Proofs.YtlmoljejdakdbaaGreatDoor.profileRuns
