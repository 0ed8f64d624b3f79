/- The table of where each function leads to is the program's, part 1. No condition. -/
import Derived.Test.YtoobchopgbgepaaGreatDoorAj
namespace Go.Proofs.YtoobchopgbgepaaGreatDoor
open Go
set_option maxRecDepth 1000000
theorem adjC0 : adjB 0 = true := by kernel_rfl
theorem adjC4 : adjB 4 = true := by kernel_rfl
theorem adjC8 : adjB 8 = true := by kernel_rfl
theorem adjC12 : adjB 12 = true := by kernel_rfl
theorem adjC16 : adjB 16 = true := by kernel_rfl
theorem adjC20 : adjB 20 = true := by kernel_rfl
end Go.Proofs.YtoobchopgbgepaaGreatDoor
