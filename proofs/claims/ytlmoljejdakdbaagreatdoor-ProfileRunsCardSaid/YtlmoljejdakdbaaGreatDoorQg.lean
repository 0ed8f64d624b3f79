/- Closed facts of the row of 'ProfileRuns', part 7. No condition. -/
import Derived.Test.YtlmoljejdakdbaaGreatDoorCards
import Derived.JoinedCond
import Derived.SevenTiedAt
import Derived.KernelRfl
namespace Go.Proofs.YtlmoljejdakdbaaGreatDoor.profileRuns
open Go
set_option maxRecDepth 1000000
theorem harness : Tryz.pinned.checked.prog.mainIs = some ((true, "24f3a2d741489c8c882ec93160b470e6e015d66bd9179474ab74526f26873e08").1, (true, "24f3a2d741489c8c882ec93160b470e6e015d66bd9179474ab74526f26873e08").2.toList) := by kernel_rfl
end Go.Proofs.YtlmoljejdakdbaaGreatDoor.profileRuns
