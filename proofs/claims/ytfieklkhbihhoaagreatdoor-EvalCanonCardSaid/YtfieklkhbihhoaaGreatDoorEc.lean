/- The machine's run tells what is recorded, part 3. No condition. -/
import Derived.Test.YtfieklkhbihhoaaGreatDoorR
namespace Go.Proofs.YtfieklkhbihhoaaGreatDoor
open Go Go.Vm Go.RowKit
set_option maxRecDepth 1000000
theorem rt14 : told (callF ftab.get mtab loopFuel (callO ftab.get mtab loopFuel (oraL []) 200) rr14.f rr14.l rr14.m nrm) rr14.m.nx rr14.v rr14.m' = true := by kernel_rfl
theorem rt15 : told (callF ftab.get mtab loopFuel (callO ftab.get mtab loopFuel (oraL []) 200) rr15.f rr15.l rr15.m nrm) rr15.m.nx rr15.v rr15.m' = true := by kernel_rfl
theorem rt16 : told (callF ftab.get mtab loopFuel (callO ftab.get mtab loopFuel (oraL []) 200) rr16.f rr16.l rr16.m nrm) rr16.m.nx rr16.v rr16.m' = true := by kernel_rfl
theorem rt17 : told (callF ftab.get mtab loopFuel (callO ftab.get mtab loopFuel (oraL []) 200) rr17.f rr17.l rr17.m nrm) rr17.m.nx rr17.v rr17.m' = true := by kernel_rfl
theorem rt18 : told (callF ftab.get mtab loopFuel (callO ftab.get mtab loopFuel (oraL []) 200) rr18.f rr18.l rr18.m nrm) rr18.m.nx rr18.v rr18.m' = true := by kernel_rfl
theorem rt19 : told (callF ftab.get mtab loopFuel (callO ftab.get mtab loopFuel (oraL []) 200) rr19.f rr19.l rr19.m nrm) rr19.m.nx rr19.v rr19.m' = true := by kernel_rfl
end Go.Proofs.YtfieklkhbihhoaaGreatDoor
