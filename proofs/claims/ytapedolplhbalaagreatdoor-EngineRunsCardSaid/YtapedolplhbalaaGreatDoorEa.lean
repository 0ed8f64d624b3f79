/- The machine's run tells what is recorded, part 1. No condition. -/
import Derived.Test.YtapedolplhbalaaGreatDoorR
namespace Go.Proofs.YtapedolplhbalaaGreatDoor
open Go Go.Vm Go.RowKit
set_option maxRecDepth 1000000
theorem rt0 : told (callF ftab.get mtab loopFuel (callO ftab.get mtab loopFuel (oraL []) 200) rr0.f rr0.l rr0.m nrm) rr0.m.nx rr0.v rr0.m' = true := by kernel_rfl
end Go.Proofs.YtapedolplhbalaaGreatDoor
