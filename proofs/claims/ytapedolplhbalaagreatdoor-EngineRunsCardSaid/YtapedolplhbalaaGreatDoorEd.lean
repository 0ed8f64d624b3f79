/- The machine's run tells what is recorded, part 4. No condition. -/
import Derived.Test.YtapedolplhbalaaGreatDoorR
namespace Go.Proofs.YtapedolplhbalaaGreatDoor
open Go Go.Vm Go.RowKit
set_option maxRecDepth 1000000
theorem rt3 : told (callF ftab.get mtab loopFuel (callO ftab.get mtab loopFuel (oraL []) 200) rr3.f rr3.l rr3.m nrm) rr3.m.nx rr3.v rr3.m' = true := by kernel_rfl
theorem rt4 : told (callF ftab.get mtab loopFuel (callO ftab.get mtab loopFuel (oraL []) 200) rr4.f rr4.l rr4.m nrm) rr4.m.nx rr4.v rr4.m' = true := by kernel_rfl
theorem rt5 : told (callF ftab.get mtab loopFuel (callO ftab.get mtab loopFuel (oraL []) 200) rr5.f rr5.l rr5.m nrm) rr5.m.nx rr5.v rr5.m' = true := by kernel_rfl
end Go.Proofs.YtapedolplhbalaaGreatDoor
