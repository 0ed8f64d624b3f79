/- The machine's run tells what is recorded, part 5. No condition. -/
import Derived.Test.YtapedolplhbalaaGreatDoorR
namespace Go.Proofs.YtapedolplhbalaaGreatDoor
open Go Go.Vm Go.RowKit
set_option maxRecDepth 1000000
theorem rt6 : told (callF ftab.get mtab loopFuel (callO ftab.get mtab loopFuel (oraL []) 200) rr6.f rr6.l rr6.m nrm) rr6.m.nx rr6.v rr6.m' = true := by kernel_rfl
theorem rt7 : told (callF ftab.get mtab loopFuel (callO ftab.get mtab loopFuel (oraL []) 200) rr7.f rr7.l rr7.m nrm) rr7.m.nx rr7.v rr7.m' = true := by kernel_rfl
theorem rt8 : told (callF ftab.get mtab loopFuel (callO ftab.get mtab loopFuel (oraL []) 200) rr8.f rr8.l rr8.m nrm) rr8.m.nx rr8.v rr8.m' = true := by kernel_rfl
theorem rt9 : told (callF ftab.get mtab loopFuel (callO ftab.get mtab loopFuel (oraL []) 200) rr9.f rr9.l rr9.m nrm) rr9.m.nx rr9.v rr9.m' = true := by kernel_rfl
end Go.Proofs.YtapedolplhbalaaGreatDoor
