/- The machine's run tells what is recorded, part 1. No condition. -/
import Derived.Test.YtaghknkbkcmmiaaGreatDoorR
namespace Go.Proofs.YtaghknkbkcmmiaaGreatDoor
open Go Go.Vm Go.RowKit
set_option maxRecDepth 1000000
theorem rt0 : told (callF ftab.get mtab loopFuel (callO ftab.get mtab loopFuel (oraL []) 200) rr0.f rr0.l rr0.m nrm) rr0.m.nx rr0.v rr0.m' = true := by kernel_rfl
theorem rt1 : told (callF ftab.get mtab loopFuel (callO ftab.get mtab loopFuel (oraL []) 200) rr1.f rr1.l rr1.m nrm) rr1.m.nx rr1.v rr1.m' = true := by kernel_rfl
theorem rt2 : told (callF ftab.get mtab loopFuel (callO ftab.get mtab loopFuel (oraL []) 200) rr2.f rr2.l rr2.m nrm) rr2.m.nx rr2.v rr2.m' = true := by kernel_rfl
theorem rt3 : told (callF ftab.get mtab loopFuel (callO ftab.get mtab loopFuel (oraL []) 200) rr3.f rr3.l rr3.m nrm) rr3.m.nx rr3.v rr3.m' = true := by kernel_rfl
end Go.Proofs.YtaghknkbkcmmiaaGreatDoor
