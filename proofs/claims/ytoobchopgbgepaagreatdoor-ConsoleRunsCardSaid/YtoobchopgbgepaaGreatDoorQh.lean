/- Closed facts of the row of 'ConsoleRuns', part 8: no function of the program starts a goroutine. No condition. -/
import Derived.Test.YtoobchopgbgepaaGreatDoorCards
import Derived.JoinedCond
import Derived.SevenTiedAt
import Derived.KernelRfl
namespace Go.Proofs.YtoobchopgbgepaaGreatDoor.consoleRuns
open Go
set_option maxRecDepth 1000000
theorem goes_none {P : Program} (h : P.funcs.any Func.goes = false) (f : FuncId) : P.goes f = false := by
  unfold Program.goes
  rw [h, Bool.and_false, Bool.or_false, List.any_eq_false]
  intro g _
  cases hg : P.funcs[g]? with
  | none => simp
  | some fn =>
    rw [Array.any_eq_false] at h
    obtain ⟨hlt, rfl⟩ := Array.getElem?_eq_some_iff.1 hg
    simpa using h g hlt
theorem goesAt_none {P : Program} (h : P.funcs.any Func.goes = false) (func : String) : P.goesAt .entering func = false := by
  unfold Program.goesAt Program.goesFrom
  cases P.funcNamed func with
  | none => rfl
  | some f => simp [goes_none h]
theorem none_goes : Tryz.pinned.checked.prog.funcs.any Func.goes = false := by kernel_rfl
theorem goes : false = Rows.consoleRunsRow.goesBy Tryz.pinned.checked.prog := (goesAt_none none_goes _).symm
end Go.Proofs.YtoobchopgbgepaaGreatDoor.consoleRuns
