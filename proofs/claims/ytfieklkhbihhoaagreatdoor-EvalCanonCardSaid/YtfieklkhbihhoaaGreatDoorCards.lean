/-
  DERIVED. GIVEN WITH THE SEED: THE CARDS: each row of YtfieklkhbihhoaaGreatDoorRows.lean that lists a variable, with what it lists TIED to the program's text (the seventh form; the later family's looks); each row that meets fmt, with fmt's text TOLD by the authors' own Lean function (tested against real Go, not proved from fmt's source: count such statements apart). THE CARD IS WHAT COUNTS. Prove the row's statement (the work); the ties are given (YtfieklkhbihhoaaGreatDoorTie.lean); close each card by the builder's one call (the guide's Derived/Test/ToyasCard.lean, 'card_holds'). Laid BY PROGRAM, IN A SANDBOX (cutbox-door.mjs). By AI agents, Wed Nov 11 2026. No macro, syntax, notation, axiom, sorry.
-/
import Derived.Test.YtfieklkhbihhoaaGreatDoorRows
import GoSem.ClaimSeven
namespace Go.Proofs.YtfieklkhbihhoaaGreatDoor
namespace Rows

/-- THE TIED CARD OF 'emendlaw16.EvalCanon'. -/
def evalCanonCard : Claim7 := { stood := { row := evalCanonRow, standIns := [], harness := (true, "093b7f233bfe040c1f53f48ab778fcbd1cefa4e74ac541455e80092bff27887f"), looks := true }, kinds := [], alts := [], laidByText := true, laidKinds := [.data, .data, .data, .data, .sentinel, .sentinel, .pinned], laidTests := true, laidLooks := .later }
def EvalCanonCardSaid : Prop := Claim7.holds Tryz.pinned (.plain (OpenSpec.ofChange evalCanonSpec)) evalCanonCard

/-- THE SECOND FORM's CARD OF 'emendlaw16.EvalCanon'. -/
def evalCanonUptoCard : Claim7 := { stood := { row := evalCanonUptoRow, standIns := [], harness := (true, "093b7f233bfe040c1f53f48ab778fcbd1cefa4e74ac541455e80092bff27887f"), looks := true }, kinds := [], alts := [], laidByText := true, laidKinds := [.data, .data, .data, .data, .sentinel, .sentinel, .pinned], laidTests := true, laidLooks := .later }
def EvalCanonUptoCardSaid : Prop := Claim7.holds Tryz.pinned (.plain (OpenSpec.upto evalCanonSpec)) evalCanonUptoCard
end Rows
end Go.Proofs.YtfieklkhbihhoaaGreatDoor
