/- Closed facts of the row of 'ProfileRuns', part 4. No condition. -/
import Derived.Test.YtlmoljejdakdbaaGreatDoorCards
import Derived.JoinedCond
import Derived.SevenTiedAt
import Derived.KernelRfl
namespace Go.Proofs.YtlmoljejdakdbaaGreatDoor.profileRuns
open Go
set_option maxRecDepth 1000000
theorem q11 : ((Rows.profileRunsRow.recurses == Tryz.pinned.checked.prog.recurses 3)) = true := by kernel_rfl
end Go.Proofs.YtlmoljejdakdbaaGreatDoor.profileRuns
