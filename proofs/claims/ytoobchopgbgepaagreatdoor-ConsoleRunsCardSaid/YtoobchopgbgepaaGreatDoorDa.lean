/- The translator's words on the laid variables. No condition. -/
import Derived.Test.YtoobchopgbgepaaGreatDoorRows
import Derived.Test.YtoobchopgbgepaaGreatDoorLi
import Derived.LaidByTextLater
import Derived.SevenTiedAt
import Derived.LaidSub
import Derived.LaidOnce
namespace Go.Proofs.YtoobchopgbgepaaGreatDoor
open Go
set_option maxRecDepth 1000000
def doorL : List (List UInt8) := ["gosem.cut.vars holds initialisers alone; see the manifest's row cutvarsword (look 11, test files too)",
 "internal/strconv.uint64pow10 is laid by its own initialiser, plain data (look 11)",
 "math/bits.deBruijn32tab is laid by its own initialiser, plain data (look 11)",
 "math/bits.deBruijn64tab is laid by its own initialiser, plain data (look 11)",
 "strconv.ErrRange is laid by its own call of errors.New on one literal (look 11)",
 "strconv.ErrSyntax is laid by its own call of errors.New on one literal (look 11)",
 "the look of gosem.cut.vars went over the folder that the caller named as the repository's root (look 11)",
 "unicode/utf8.acceptRanges is laid by its own initialiser, plain data (look 11)",
 "unicode/utf8.first is laid by its text alone (pinned 1)"].map fun s => s.toUTF8.data.toList
theorem doorOk : Tryz.prog.doorBytes = doorL := by kernel_rfl
end Go.Proofs.YtoobchopgbgepaaGreatDoor
