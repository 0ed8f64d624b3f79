/-
  DERIVED. GIVEN WITH THE SEED: THE CARDS: each row of YtomnogebkdngdaaGreatDoorRows.lean that lists a variable, with what it lists TIED to the program's text (the seventh form; the later family's looks); each row that meets fmt, with fmt's text TOLD by the authors' own Lean function (tested against real Go, not proved from fmt's source: count such statements apart). THE CARD IS WHAT COUNTS. Prove the row's statement (the work); the ties are given (YtomnogebkdngdaaGreatDoorTie.lean); close each card by the builder's one call (the guide's Derived/Test/ToyasCard.lean, 'card_holds'). Laid BY PROGRAM, IN A SANDBOX (cutbox-door.mjs). By AI agents, Wed Nov 11 2026. No macro, syntax, notation, axiom, sorry.
-/
import Derived.Test.YtomnogebkdngdaaGreatDoorRows
import GoSem.ClaimSeven
namespace Go.Proofs.YtomnogebkdngdaaGreatDoor
namespace Rows

/-- THE TIED CARD OF 'emendlaw16.EvalRuns'. -/
def evalRunsCard : Claim7 := { stood := { row := evalRunsRow, standIns := [], harness := (true, "70337d47e60d4f231bb37b061d9bf44b402b64841cb189a51417c980d57d07fd"), looks := true }, kinds := [], alts := [], laidByText := true, laidKinds := [.data, .data, .data, .data, .sentinel, .sentinel, .pinned], laidTests := true, laidLooks := .later }
def EvalRunsCardSaid : Prop := Claim7.holds Tryz.pinned (.plain (OpenSpec.ofChange evalRunsSpec)) evalRunsCard

/-- THE SECOND FORM's CARD OF 'emendlaw16.EvalRuns'. -/
def evalRunsUptoCard : Claim7 := { stood := { row := evalRunsUptoRow, standIns := [], harness := (true, "70337d47e60d4f231bb37b061d9bf44b402b64841cb189a51417c980d57d07fd"), looks := true }, kinds := [], alts := [], laidByText := true, laidKinds := [.data, .data, .data, .data, .sentinel, .sentinel, .pinned], laidTests := true, laidLooks := .later }
def EvalRunsUptoCardSaid : Prop := Claim7.holds Tryz.pinned (.plain (OpenSpec.upto evalRunsSpec)) evalRunsUptoCard
end Rows
end Go.Proofs.YtomnogebkdngdaaGreatDoor
