/- The machine's run tells what is recorded, part 3. No condition. -/
import Derived.Test.YtapedolplhbalaaGreatDoorR
namespace Go.Proofs.YtapedolplhbalaaGreatDoor
open Go Go.Vm Go.RowKit
set_option maxRecDepth 1000000
theorem rt2 : told (callF ftab.get mtab loopFuel (callO ftab.get mtab loopFuel (oraL []) 200) rr2.f rr2.l rr2.m nrm) rr2.m.nx rr2.v rr2.m' = true := by kernel_rfl
end Go.Proofs.YtapedolplhbalaaGreatDoor
