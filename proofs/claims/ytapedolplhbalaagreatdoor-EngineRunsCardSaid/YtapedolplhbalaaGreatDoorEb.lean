/- The machine's run tells what is recorded, part 2. No condition. -/
import Derived.Test.YtapedolplhbalaaGreatDoorR
namespace Go.Proofs.YtapedolplhbalaaGreatDoor
open Go Go.Vm Go.RowKit
set_option maxRecDepth 1000000
theorem rt1 : told (callF ftab.get mtab loopFuel (callO ftab.get mtab loopFuel (oraL []) 200) rr1.f rr1.l rr1.m nrm) rr1.m.nx rr1.v rr1.m' = true := by kernel_rfl
end Go.Proofs.YtapedolplhbalaaGreatDoor
