/- The table of where each function leads to is the program's, part 2. No condition. -/
import Derived.Test.YtoobchopgbgepaaGreatDoorAj
namespace Go.Proofs.YtoobchopgbgepaaGreatDoor
open Go
set_option maxRecDepth 1000000
theorem adjC1 : adjB 1 = true := by kernel_rfl
theorem adjC5 : adjB 5 = true := by kernel_rfl
theorem adjC9 : adjB 9 = true := by kernel_rfl
theorem adjC13 : adjB 13 = true := by kernel_rfl
theorem adjC17 : adjB 17 = true := by kernel_rfl
theorem adjC21 : adjB 21 = true := by kernel_rfl
end Go.Proofs.YtoobchopgbgepaaGreatDoor
