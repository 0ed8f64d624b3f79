/- The machine's run tells what is recorded, part 4. No condition. -/
import Derived.Test.YtfieklkhbihhoaaGreatDoorR
namespace Go.Proofs.YtfieklkhbihhoaaGreatDoor
open Go Go.Vm Go.RowKit
set_option maxRecDepth 1000000
theorem rt20 : told (callF ftab.get mtab loopFuel (callO ftab.get mtab loopFuel (oraL []) 200) rr20.f rr20.l rr20.m nrm) rr20.m.nx rr20.v rr20.m' = true := by kernel_rfl
theorem rt21 : told (callF ftab.get mtab loopFuel (callO ftab.get mtab loopFuel (oraL []) 200) rr21.f rr21.l rr21.m nrm) rr21.m.nx rr21.v rr21.m' = true := by kernel_rfl
theorem rt22 : told (callF ftab.get mtab loopFuel (callO ftab.get mtab loopFuel (oraL []) 200) rr22.f rr22.l rr22.m nrm) rr22.m.nx rr22.v rr22.m' = true := by kernel_rfl
theorem rt23 : told (callF ftab.get mtab loopFuel (callO ftab.get mtab loopFuel (oraL []) 200) rr23.f rr23.l rr23.m nrm) rr23.m.nx rr23.v rr23.m' = true := by kernel_rfl
theorem rt24 : told (callF ftab.get mtab loopFuel (callO ftab.get mtab loopFuel (oraL []) 200) rr24.f rr24.l rr24.m nrm) rr24.m.nx rr24.v rr24.m' = true := by kernel_rfl
theorem rt25 : told (callF ftab.get mtab loopFuel (callO ftab.get mtab loopFuel (oraL [rr0, rr1, rr2, rr3, rr4, rr5, rr6, rr7, rr8, rr9, rr10, rr11, rr12, rr13, rr14, rr15, rr16, rr17, rr18, rr19, rr20, rr21, rr22, rr23, rr24]) 200) rr25.f rr25.l rr25.m nrm) rr25.m.nx rr25.v rr25.m' = true := by kernel_rfl
theorem rt28 : told (callF ftab.get mtab loopFuel (callO ftab.get mtab loopFuel (oraL []) 200) rr28.f rr28.l rr28.m nrm) rr28.m.nx rr28.v rr28.m' = true := by kernel_rfl
theorem rt31 : told (callF ftab.get mtab loopFuel (callO ftab.get mtab loopFuel (oraL []) 200) rr31.f rr31.l rr31.m nrm) rr31.m.nx rr31.v rr31.m' = true := by kernel_rfl
end Go.Proofs.YtfieklkhbihhoaaGreatDoor
