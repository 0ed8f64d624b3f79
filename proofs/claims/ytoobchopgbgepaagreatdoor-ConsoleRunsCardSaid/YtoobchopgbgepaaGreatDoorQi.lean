/- Closed facts of the row of 'ConsoleRuns', part 9. No condition. -/
import Derived.Test.YtoobchopgbgepaaGreatDoorCards
import Derived.JoinedCond
import Derived.SevenTiedAt
import Derived.KernelRfl
namespace Go.Proofs.YtoobchopgbgepaaGreatDoor.consoleRuns
open Go
set_option maxRecDepth 1000000
theorem q0 : (Rows.consoleRunsRow.wf (OpenSpec.ofChange (OpenSpec.ofChange Rows.consoleRunsSpec).bare)) = true := by kernel_rfl
theorem q2 : (mapsRowed Tryz.pinned.checked.prog) = true := by kernel_rfl
theorem q3 : (Tryz.f3.params.all (Tryz.pinned.checked.prog.readableRec ·)) = true := by kernel_rfl
theorem q4 : (namedTie Tryz.pinned.checked.prog Rows.consoleRunsRow.named (OpenSpec.ofChange Rows.consoleRunsSpec).bare.vars) = true := by kernel_rfl
theorem q5 : ((Rows.consoleRunsRow.stops == [])) = true := by kernel_rfl
theorem q6 : ((Tryz.pinned.checked.prog.stops == [])) = true := by kernel_rfl
theorem q7 : ((Rows.consoleRunsRow.knobs == [])) = true := by kernel_rfl
theorem q8 : ((Tryz.pinned.checked.prog.stopKnobs == [])) = true := by kernel_rfl
theorem q13 : ((Rows.consoleRunsRow.maps == (Tryz.f3.params.toList ++ (OpenSpec.ofChange Rows.consoleRunsSpec).bare.plain.varTypes Tryz.pinned.checked.prog).any (Tryz.pinned.checked.prog.mapsRec ·))) = true := by kernel_rfl
theorem q14 : ((Rows.consoleRunsRow.ifaces == (Tryz.f3.params.toList ++ (OpenSpec.ofChange Rows.consoleRunsSpec).bare.plain.varTypes Tryz.pinned.checked.prog).any (Tryz.pinned.checked.prog.ifacesRec ·))) = true := by kernel_rfl
theorem q15 : ((Rows.consoleRunsRow.mapsOut == Tryz.pinned.checked.prog.mapsAmong Tryz.f3.resultTypes.toList)) = true := by kernel_rfl
theorem q16 : ((Rows.consoleRunsRow.loops == (Tryz.f3.params.toList ++ (OpenSpec.ofChange Rows.consoleRunsSpec).bare.plain.varTypes Tryz.pinned.checked.prog).any (Tryz.pinned.checked.prog.loopsFrom ·))) = true := by kernel_rfl
theorem q17 : ((Rows.consoleRunsRow.wideKeys == (Tryz.f3.params.toList ++ (OpenSpec.ofChange Rows.consoleRunsSpec).bare.plain.varTypes Tryz.pinned.checked.prog ++ Tryz.f3.resultTypes.toList).any (Tryz.pinned.checked.prog.wideKeysFrom ·))) = true := by kernel_rfl
theorem q18 : ((OpenSpec.ofChange Rows.consoleRunsSpec).bare.vars.all (Tryz.pinned.checked.prog.varReadable ·)) = true := by kernel_rfl
theorem q19 : (Tryz.f3.resultTypes.all (fun t => Tryz.pinned.checked.prog.readableRec t && decide (t < Tryz.pinned.checked.prog.types.size))) = true := by kernel_rfl
theorem q20 : ((Rows.consoleRunsRow.ifacesOut == Tryz.f3.resultTypes.toList.any (Tryz.pinned.checked.prog.ifacesRec ·))) = true := by kernel_rfl
theorem q21 : ((Rows.consoleRunsRow.loopsOut == Tryz.f3.resultTypes.toList.any (Tryz.pinned.checked.prog.loopsFrom ·))) = true := by kernel_rfl
theorem q22 : ((Rows.consoleRunsRow.plainKeys == Tryz.pinned.checked.prog.plainKeys)) = true := by kernel_rfl
theorem q23 : (Rows.consoleRunsRow.shortTexts.isNone) = true := by kernel_rfl
theorem q24 : (Tryz.pinned.checked.prog.stopsHeard) = true := by kernel_rfl
theorem q26 : ((Rows.consoleRunsRow.lifted == Tryz.pinned.checked.prog.liftsFinal)) = true := by kernel_rfl
theorem q27 : ((Tryz.pinned.checked.prog.make == some Rows.consoleRunsRow.make)) = true := by kernel_rfl
theorem q28 : ((Rows.consoleRunsRow.kinds == (if Rows.consoleRunsRow.domain.isEmpty then [] else Tryz.f3.params.toList.map fun t => match Tryz.pinned.checked.prog.underlying t with | some (.int k) => some k | _ => none))) = true := by kernel_rfl
theorem q29 : ((Rows.consoleRunsRow.pinned == Rows.consoleRunsRow.pinnedBy)) = true := by kernel_rfl
theorem q30 : ((Rows.consoleRunsRow.veiled == (Tryz.f3.params.toList ++ (OpenSpec.ofChange Rows.consoleRunsSpec).bare.plain.varTypes Tryz.pinned.checked.prog ++ Tryz.f3.resultTypes.toList).any (Tryz.pinned.checked.prog.veiledRec ·))) = true := by kernel_rfl
theorem q31 : (Rows.consoleRunsRow.veiledFits Tryz.pinned.checked.prog Tryz.f3.params.toList (Tryz.f3.params.toList ++ (OpenSpec.ofChange Rows.consoleRunsSpec).bare.plain.varTypes Tryz.pinned.checked.prog ++ Tryz.f3.resultTypes.toList)) = true := by kernel_rfl
theorem looked : true = Tryz.pinned.checked.prog.looks [] := by kernel_rfl
end Go.Proofs.YtoobchopgbgepaaGreatDoor.consoleRuns
