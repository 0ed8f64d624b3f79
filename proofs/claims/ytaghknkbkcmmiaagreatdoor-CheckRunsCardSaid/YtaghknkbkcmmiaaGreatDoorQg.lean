/- Closed facts of the row of 'CheckRuns', part 7. No condition. -/
import Derived.Test.YtaghknkbkcmmiaaGreatDoorCards
import Derived.JoinedCond
import Derived.SevenTiedAt
import Derived.KernelRfl
namespace Go.Proofs.YtaghknkbkcmmiaaGreatDoor.checkRuns
open Go
set_option maxRecDepth 1000000
theorem harness : Tryz.pinned.checked.prog.mainIs = some ((true, "d4ad1c09f0024b2a88919422861dfbfb3eeb03e93339170092fd640bfac8fbce").1, (true, "d4ad1c09f0024b2a88919422861dfbfb3eeb03e93339170092fd640bfac8fbce").2.toList) := by kernel_rfl
end Go.Proofs.YtaghknkbkcmmiaaGreatDoor.checkRuns
