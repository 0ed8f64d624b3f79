/- Closed facts of the row of 'ProfileRuns', part 3. No condition. -/
import Derived.Test.YtlmoljejdakdbaaGreatDoorCards
import Derived.JoinedCond
import Derived.SevenTiedAt
import Derived.KernelRfl
namespace Go.Proofs.YtlmoljejdakdbaaGreatDoor.profileRuns
open Go
set_option maxRecDepth 1000000
theorem q10 : ((Rows.profileRunsRow.unfollowed == Tryz.pinned.checked.prog.unfollowed 3)) = true := by kernel_rfl
end Go.Proofs.YtlmoljejdakdbaaGreatDoor.profileRuns
