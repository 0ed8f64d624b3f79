/- The machine's run tells what is recorded, part 2. No condition. -/
import Derived.Test.YtfieklkhbihhoaaGreatDoorR
namespace Go.Proofs.YtfieklkhbihhoaaGreatDoor
open Go Go.Vm Go.RowKit
set_option maxRecDepth 1000000
theorem rt7 : told (callF ftab.get mtab loopFuel (callO ftab.get mtab loopFuel (oraL []) 200) rr7.f rr7.l rr7.m nrm) rr7.m.nx rr7.v rr7.m' = true := by kernel_rfl
theorem rt8 : told (callF ftab.get mtab loopFuel (callO ftab.get mtab loopFuel (oraL []) 200) rr8.f rr8.l rr8.m nrm) rr8.m.nx rr8.v rr8.m' = true := by kernel_rfl
theorem rt9 : told (callF ftab.get mtab loopFuel (callO ftab.get mtab loopFuel (oraL []) 200) rr9.f rr9.l rr9.m nrm) rr9.m.nx rr9.v rr9.m' = true := by kernel_rfl
theorem rt10 : told (callF ftab.get mtab loopFuel (callO ftab.get mtab loopFuel (oraL []) 200) rr10.f rr10.l rr10.m nrm) rr10.m.nx rr10.v rr10.m' = true := by kernel_rfl
theorem rt11 : told (callF ftab.get mtab loopFuel (callO ftab.get mtab loopFuel (oraL []) 200) rr11.f rr11.l rr11.m nrm) rr11.m.nx rr11.v rr11.m' = true := by kernel_rfl
theorem rt12 : told (callF ftab.get mtab loopFuel (callO ftab.get mtab loopFuel (oraL []) 200) rr12.f rr12.l rr12.m nrm) rr12.m.nx rr12.v rr12.m' = true := by kernel_rfl
theorem rt13 : told (callF ftab.get mtab loopFuel (callO ftab.get mtab loopFuel (oraL []) 200) rr13.f rr13.l rr13.m nrm) rr13.m.nx rr13.v rr13.m' = true := by kernel_rfl
end Go.Proofs.YtfieklkhbihhoaaGreatDoor
