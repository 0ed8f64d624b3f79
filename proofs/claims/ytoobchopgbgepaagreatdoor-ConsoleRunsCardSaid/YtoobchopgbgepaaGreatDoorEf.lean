/- The machine's run tells what is recorded, part 6. No condition. -/
import Derived.Test.YtoobchopgbgepaaGreatDoorR
namespace Go.Proofs.YtoobchopgbgepaaGreatDoor
open Go Go.Vm Go.RowKit
set_option maxRecDepth 1000000
theorem rt13 : told (callF ftab.get mtab loopFuel (callO ftab.get mtab loopFuel (oraL []) 200) rr13.f rr13.l rr13.m nrm) rr13.m.nx rr13.v rr13.m' = true := by kernel_rfl
theorem rt14 : told (callF ftab.get mtab loopFuel (callO ftab.get mtab loopFuel (oraL []) 200) rr14.f rr14.l rr14.m nrm) rr14.m.nx rr14.v rr14.m' = true := by kernel_rfl
theorem rt15 : told (callF ftab.get mtab loopFuel (callO ftab.get mtab loopFuel (oraL []) 200) rr15.f rr15.l rr15.m nrm) rr15.m.nx rr15.v rr15.m' = true := by kernel_rfl
theorem rt16 : told (callF ftab.get mtab loopFuel (callO ftab.get mtab loopFuel (oraL []) 200) rr16.f rr16.l rr16.m nrm) rr16.m.nx rr16.v rr16.m' = true := by kernel_rfl
theorem rt17 : told (callF ftab.get mtab loopFuel (callO ftab.get mtab loopFuel (oraL []) 200) rr17.f rr17.l rr17.m nrm) rr17.m.nx rr17.v rr17.m' = true := by kernel_rfl
theorem rt18 : told (callF ftab.get mtab loopFuel (callO ftab.get mtab loopFuel (oraL []) 200) rr18.f rr18.l rr18.m nrm) rr18.m.nx rr18.v rr18.m' = true := by kernel_rfl
theorem rt19 : told (callF ftab.get mtab loopFuel (callO ftab.get mtab loopFuel (oraL []) 200) rr19.f rr19.l rr19.m nrm) rr19.m.nx rr19.v rr19.m' = true := by kernel_rfl
theorem rt20 : told (callF ftab.get mtab loopFuel (callO ftab.get mtab loopFuel (oraL []) 200) rr20.f rr20.l rr20.m nrm) rr20.m.nx rr20.v rr20.m' = true := by kernel_rfl
theorem rt21 : told (callF ftab.get mtab loopFuel (callO ftab.get mtab loopFuel (oraL []) 200) rr21.f rr21.l rr21.m nrm) rr21.m.nx rr21.v rr21.m' = true := by kernel_rfl
theorem rt22 : told (callF ftab.get mtab loopFuel (callO ftab.get mtab loopFuel (oraL []) 200) rr22.f rr22.l rr22.m nrm) rr22.m.nx rr22.v rr22.m' = true := by kernel_rfl
theorem rt23 : told (callF ftab.get mtab loopFuel (callO ftab.get mtab loopFuel (oraL []) 200) rr23.f rr23.l rr23.m nrm) rr23.m.nx rr23.v rr23.m' = true := by kernel_rfl
theorem rt24 : told (callF ftab.get mtab loopFuel (callO ftab.get mtab loopFuel (oraL []) 200) rr24.f rr24.l rr24.m nrm) rr24.m.nx rr24.v rr24.m' = true := by kernel_rfl
theorem rt25 : told (callF ftab.get mtab loopFuel (callO ftab.get mtab loopFuel (oraL []) 200) rr25.f rr25.l rr25.m nrm) rr25.m.nx rr25.v rr25.m' = true := by kernel_rfl
theorem rt26 : told (callF ftab.get mtab loopFuel (callO ftab.get mtab loopFuel (oraL [rr0, rr1, rr2, rr3, rr4, rr5, rr6, rr7, rr8, rr9, rr10, rr11, rr12, rr13, rr14, rr15, rr16, rr17, rr18, rr19, rr20, rr21, rr22, rr23, rr24, rr25]) 200) rr26.f rr26.l rr26.m nrm) rr26.m.nx rr26.v rr26.m' = true := by kernel_rfl
end Go.Proofs.YtoobchopgbgepaaGreatDoor
