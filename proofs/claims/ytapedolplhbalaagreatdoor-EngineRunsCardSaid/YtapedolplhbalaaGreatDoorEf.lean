/- The machine's run tells what is recorded, part 6. No condition. -/
import Derived.Test.YtapedolplhbalaaGreatDoorR
namespace Go.Proofs.YtapedolplhbalaaGreatDoor
open Go Go.Vm Go.RowKit
set_option maxRecDepth 1000000
theorem rt10 : told (callF ftab.get mtab loopFuel (callO ftab.get mtab loopFuel (oraL []) 200) rr10.f rr10.l rr10.m nrm) rr10.m.nx rr10.v rr10.m' = true := by kernel_rfl
theorem rt11 : told (callF ftab.get mtab loopFuel (callO ftab.get mtab loopFuel (oraL []) 200) rr11.f rr11.l rr11.m nrm) rr11.m.nx rr11.v rr11.m' = true := by kernel_rfl
theorem rt12 : told (callF ftab.get mtab loopFuel (callO ftab.get mtab loopFuel (oraL []) 200) rr12.f rr12.l rr12.m nrm) rr12.m.nx rr12.v rr12.m' = true := by kernel_rfl
end Go.Proofs.YtapedolplhbalaaGreatDoor
