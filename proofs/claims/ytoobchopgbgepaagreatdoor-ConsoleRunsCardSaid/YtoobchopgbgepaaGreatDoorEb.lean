/- The machine's run tells what is recorded, part 2. No condition. -/
import Derived.Test.YtoobchopgbgepaaGreatDoorR
namespace Go.Proofs.YtoobchopgbgepaaGreatDoor
open Go Go.Vm Go.RowKit
set_option maxRecDepth 1000000
theorem rt7 : told (callF ftab.get mtab loopFuel (callO ftab.get mtab loopFuel (oraL []) 200) rr7.f rr7.l rr7.m nrm) rr7.m.nx rr7.v rr7.m' = true := by kernel_rfl
theorem rt8 : told (callF ftab.get mtab loopFuel (callO ftab.get mtab loopFuel (oraL []) 200) rr8.f rr8.l rr8.m nrm) rr8.m.nx rr8.v rr8.m' = true := by kernel_rfl
end Go.Proofs.YtoobchopgbgepaaGreatDoor
