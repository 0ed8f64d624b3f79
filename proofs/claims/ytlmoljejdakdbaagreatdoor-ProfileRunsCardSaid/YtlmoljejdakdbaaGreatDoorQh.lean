/- Closed facts of the row of 'ProfileRuns', part 8. No condition. -/
import Derived.Test.YtlmoljejdakdbaaGreatDoorCards
import Derived.JoinedCond
import Derived.SevenTiedAt
import Derived.KernelRfl
namespace Go.Proofs.YtlmoljejdakdbaaGreatDoor.profileRuns
open Go
set_option maxRecDepth 1000000
theorem goes : false = Rows.profileRunsRow.goesBy Tryz.pinned.checked.prog := by kernel_rfl
end Go.Proofs.YtlmoljejdakdbaaGreatDoor.profileRuns
