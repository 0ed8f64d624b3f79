/- The machine's run tells what is recorded, part 7. No condition. -/
import Derived.Test.YtapedolplhbalaaGreatDoorR
namespace Go.Proofs.YtapedolplhbalaaGreatDoor
open Go Go.Vm Go.RowKit
set_option maxRecDepth 1000000
theorem rt13 : told (callF ftab.get mtab loopFuel (callO ftab.get mtab loopFuel (oraL []) 200) rr13.f rr13.l rr13.m nrm) rr13.m.nx rr13.v rr13.m' = true := by kernel_rfl
theorem rt14 : told (callF ftab.get mtab loopFuel (callO ftab.get mtab loopFuel (oraL []) 200) rr14.f rr14.l rr14.m nrm) rr14.m.nx rr14.v rr14.m' = true := by kernel_rfl
theorem rt15 : told (callF ftab.get mtab loopFuel (callO ftab.get mtab loopFuel (oraL [rr0, rr1, rr2, rr3, rr4, rr5, rr6, rr7, rr8, rr9, rr10, rr11, rr12, rr13, rr14]) 200) rr15.f rr15.l rr15.m nrm) rr15.m.nx rr15.v rr15.m' = true := by kernel_rfl
end Go.Proofs.YtapedolplhbalaaGreatDoor
