/- The machine's run tells what is recorded, part 2. No condition. -/
import Derived.Test.YtaghknkbkcmmiaaGreatDoorR
namespace Go.Proofs.YtaghknkbkcmmiaaGreatDoor
open Go Go.Vm Go.RowKit
set_option maxRecDepth 1000000
theorem rt4 : told (callF ftab.get mtab loopFuel (callO ftab.get mtab loopFuel (oraL []) 200) rr4.f rr4.l rr4.m nrm) rr4.m.nx rr4.v rr4.m' = true := by kernel_rfl
theorem rt5 : told (callF ftab.get mtab loopFuel (callO ftab.get mtab loopFuel (oraL []) 200) rr5.f rr5.l rr5.m nrm) rr5.m.nx rr5.v rr5.m' = true := by kernel_rfl
theorem rt6 : told (callF ftab.get mtab loopFuel (callO ftab.get mtab loopFuel (oraL []) 200) rr6.f rr6.l rr6.m nrm) rr6.m.nx rr6.v rr6.m' = true := by kernel_rfl
theorem rt7 : told (callF ftab.get mtab loopFuel (callO ftab.get mtab loopFuel (oraL []) 200) rr7.f rr7.l rr7.m nrm) rr7.m.nx rr7.v rr7.m' = true := by kernel_rfl
theorem rt8 : told (callF ftab.get mtab loopFuel (callO ftab.get mtab loopFuel (oraL []) 200) rr8.f rr8.l rr8.m nrm) rr8.m.nx rr8.v rr8.m' = true := by kernel_rfl
end Go.Proofs.YtaghknkbkcmmiaaGreatDoor
