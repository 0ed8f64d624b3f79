/- Closed facts of the row of 'EvalCanon', part 4. No condition. -/
import Derived.Test.YtfieklkhbihhoaaGreatDoorCards
import Derived.JoinedCond
import Derived.SevenTiedAt
import Derived.KernelRfl
namespace Go.Proofs.YtfieklkhbihhoaaGreatDoor.evalCanon
open Go
set_option maxRecDepth 1000000
theorem q11 : ((Rows.evalCanonRow.recurses == Tryz.pinned.checked.prog.recurses 3)) = true := by kernel_rfl
end Go.Proofs.YtfieklkhbihhoaaGreatDoor.evalCanon
