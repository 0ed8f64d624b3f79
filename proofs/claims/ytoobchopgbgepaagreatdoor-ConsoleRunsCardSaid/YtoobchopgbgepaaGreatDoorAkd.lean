/- The table of where each function leads to is the program's, part 4. No condition. -/
import Derived.Test.YtoobchopgbgepaaGreatDoorAj
namespace Go.Proofs.YtoobchopgbgepaaGreatDoor
open Go
set_option maxRecDepth 1000000
theorem adjC3 : adjB 3 = true := by kernel_rfl
theorem adjC7 : adjB 7 = true := by kernel_rfl
theorem adjC11 : adjB 11 = true := by kernel_rfl
theorem adjC15 : adjB 15 = true := by kernel_rfl
theorem adjC19 : adjB 19 = true := by kernel_rfl
theorem adjC23 : adjB 23 = true := by kernel_rfl
end Go.Proofs.YtoobchopgbgepaaGreatDoor
