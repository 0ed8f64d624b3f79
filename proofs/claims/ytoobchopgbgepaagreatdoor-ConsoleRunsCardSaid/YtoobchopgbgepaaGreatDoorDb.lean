/- The translator's words on the door as a whole. No condition. -/
import Derived.Test.YtoobchopgbgepaaGreatDoorRows
import Derived.Test.YtoobchopgbgepaaGreatDoorLi
import Derived.LaidByTextLater
import Derived.SevenTiedAt
import Derived.LaidSub
import Derived.LaidOnce
namespace Go.Proofs.YtoobchopgbgepaaGreatDoor
open Go
set_option maxRecDepth 1000000
theorem tw1 : Tryz.prog.worded (varsWordLater true) = true := by kernel_rfl
theorem tw2 : Tryz.prog.worded (varsWordLater !true) = false := by kernel_rfl
theorem tw3 : Tryz.prog.worded rootWordLater = true := by kernel_rfl
theorem vId : Tryz.prog.funcNamed "gosem.cut.vars" = some 750 := by kernel_rfl
end Go.Proofs.YtoobchopgbgepaaGreatDoor
