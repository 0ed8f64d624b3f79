/- The table of where each function leads to is the program's, part 3. No condition. -/
import Derived.Test.YtoobchopgbgepaaGreatDoorAj
namespace Go.Proofs.YtoobchopgbgepaaGreatDoor
open Go
set_option maxRecDepth 1000000
theorem adjC2 : adjB 2 = true := by kernel_rfl
theorem adjC6 : adjB 6 = true := by kernel_rfl
theorem adjC10 : adjB 10 = true := by kernel_rfl
theorem adjC14 : adjB 14 = true := by kernel_rfl
theorem adjC18 : adjB 18 = true := by kernel_rfl
theorem adjC22 : adjB 22 = true := by kernel_rfl
end Go.Proofs.YtoobchopgbgepaaGreatDoor
