/- The machine's run tells what is recorded, part 1. No condition. -/
import Derived.Test.YtoobchopgbgepaaGreatDoorR
namespace Go.Proofs.YtoobchopgbgepaaGreatDoor
open Go Go.Vm Go.RowKit
set_option maxRecDepth 1000000
theorem rt0 : told (callF ftab.get mtab loopFuel (callO ftab.get mtab loopFuel (oraL []) 200) rr0.f rr0.l rr0.m nrm) rr0.m.nx rr0.v rr0.m' = true := by kernel_rfl
theorem rt1 : told (callF ftab.get mtab loopFuel (callO ftab.get mtab loopFuel (oraL []) 200) rr1.f rr1.l rr1.m nrm) rr1.m.nx rr1.v rr1.m' = true := by kernel_rfl
theorem rt2 : told (callF ftab.get mtab loopFuel (callO ftab.get mtab loopFuel (oraL []) 200) rr2.f rr2.l rr2.m nrm) rr2.m.nx rr2.v rr2.m' = true := by kernel_rfl
theorem rt3 : told (callF ftab.get mtab loopFuel (callO ftab.get mtab loopFuel (oraL []) 200) rr3.f rr3.l rr3.m nrm) rr3.m.nx rr3.v rr3.m' = true := by kernel_rfl
theorem rt4 : told (callF ftab.get mtab loopFuel (callO ftab.get mtab loopFuel (oraL []) 200) rr4.f rr4.l rr4.m nrm) rr4.m.nx rr4.v rr4.m' = true := by kernel_rfl
theorem rt5 : told (callF ftab.get mtab loopFuel (callO ftab.get mtab loopFuel (oraL []) 200) rr5.f rr5.l rr5.m nrm) rr5.m.nx rr5.v rr5.m' = true := by kernel_rfl
theorem rt6 : told (callF ftab.get mtab loopFuel (callO ftab.get mtab loopFuel (oraL []) 200) rr6.f rr6.l rr6.m nrm) rr6.m.nx rr6.v rr6.m' = true := by kernel_rfl
end Go.Proofs.YtoobchopgbgepaaGreatDoor
