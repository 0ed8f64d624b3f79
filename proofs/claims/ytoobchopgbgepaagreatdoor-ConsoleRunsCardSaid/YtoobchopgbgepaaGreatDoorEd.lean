/- The machine's run tells what is recorded, part 4. No condition. -/
import Derived.Test.YtoobchopgbgepaaGreatDoorR
namespace Go.Proofs.YtoobchopgbgepaaGreatDoor
open Go Go.Vm Go.RowKit
set_option maxRecDepth 1000000
theorem rt11 : told (callF ftab.get mtab loopFuel (callO ftab.get mtab loopFuel (oraL []) 200) rr11.f rr11.l rr11.m nrm) rr11.m.nx rr11.v rr11.m' = true := by kernel_rfl
end Go.Proofs.YtoobchopgbgepaaGreatDoor
