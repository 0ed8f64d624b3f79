/- The machine's run tells what is recorded, part 3. No condition. -/
import Derived.Test.YtoobchopgbgepaaGreatDoorR
namespace Go.Proofs.YtoobchopgbgepaaGreatDoor
open Go Go.Vm Go.RowKit
set_option maxRecDepth 1000000
theorem rt9 : told (callF ftab.get mtab loopFuel (callO ftab.get mtab loopFuel (oraL []) 200) rr9.f rr9.l rr9.m nrm) rr9.m.nx rr9.v rr9.m' = true := by kernel_rfl
theorem rt10 : told (callF ftab.get mtab loopFuel (callO ftab.get mtab loopFuel (oraL []) 200) rr10.f rr10.l rr10.m nrm) rr10.m.nx rr10.v rr10.m' = true := by kernel_rfl
end Go.Proofs.YtoobchopgbgepaaGreatDoor
