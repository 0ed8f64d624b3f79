/- The machine's run tells what is recorded, part 5. No condition. -/
import Derived.Test.YtoobchopgbgepaaGreatDoorR
namespace Go.Proofs.YtoobchopgbgepaaGreatDoor
open Go Go.Vm Go.RowKit
set_option maxRecDepth 1000000
theorem rt12 : told (callF ftab.get mtab loopFuel (callO ftab.get mtab loopFuel (oraL []) 200) rr12.f rr12.l rr12.m nrm) rr12.m.nx rr12.v rr12.m' = true := by kernel_rfl
end Go.Proofs.YtoobchopgbgepaaGreatDoor
