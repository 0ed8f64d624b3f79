/-
  DERIVED. GIVEN WITH THE SEED: THE CARDS: each row of YtlmoljejdakdbaaGreatDoorRows.lean that lists a variable, with what it lists TIED to the program's text (the seventh form; the later family's looks); each row that meets fmt, with fmt's text TOLD by the authors' own Lean function (tested against real Go, not proved from fmt's source: count such statements apart). THE CARD IS WHAT COUNTS. Prove the row's statement (the work); the ties are given (YtlmoljejdakdbaaGreatDoorTie.lean); close each card by the builder's one call (the guide's Derived/Test/ToyasCard.lean, 'card_holds'). Laid BY PROGRAM, IN A SANDBOX (cutbox-door.mjs). By AI agents, Wed Nov 11 2026. No macro, syntax, notation, axiom, sorry.
-/
import Derived.Test.YtlmoljejdakdbaaGreatDoorRows
import GoSem.ClaimSeven
namespace Go.Proofs.YtlmoljejdakdbaaGreatDoor
namespace Rows

/-- THE TIED CARD OF 'emendlaw12.ProfileRuns'. -/
def profileRunsCard : Claim7 := { stood := { row := profileRunsRow, standIns := [], harness := (true, "24f3a2d741489c8c882ec93160b470e6e015d66bd9179474ab74526f26873e08"), looks := true }, kinds := [], alts := [], laidByText := true, laidKinds := [.data, .data, .data, .data, .sentinel, .sentinel, .pinned], laidTests := true, laidLooks := .later }
def ProfileRunsCardSaid : Prop := Claim7.holds Tryz.pinned (.plain (OpenSpec.ofChange profileRunsSpec)) profileRunsCard

/-- THE TIED CARD OF 'emendlaw12.ProfileTells'. -/
def profileTellsCard : Claim7 := { stood := { row := profileTellsRow, standIns := [], harness := (true, "24f3a2d741489c8c882ec93160b470e6e015d66bd9179474ab74526f26873e08"), looks := true }, kinds := [], alts := [], laidByText := true, laidKinds := [.data, .data, .data, .data, .sentinel, .sentinel, .pinned], laidTests := true, laidLooks := .later }
def ProfileTellsCardSaid : Prop := Claim7.holds Tryz.pinned (.plain (OpenSpec.ofChange profileTellsSpec)) profileTellsCard

/-- THE TIED CARD OF 'emendlaw12.ProfileRefused'. -/
def profileRefusedCard : Claim7 := { stood := { row := profileRefusedRow, standIns := [], harness := (true, "24f3a2d741489c8c882ec93160b470e6e015d66bd9179474ab74526f26873e08"), looks := true }, kinds := [], alts := [], laidByText := true, laidKinds := [.data, .data, .data, .data, .sentinel, .sentinel, .pinned], laidTests := true, laidLooks := .later }
def ProfileRefusedCardSaid : Prop := Claim7.holds Tryz.pinned (.plain (OpenSpec.ofChange profileRefusedSpec)) profileRefusedCard

/-- THE TIED CARD OF 'emendlaw12.ProfileOrder'. -/
def profileOrderCard : Claim7 := { stood := { row := profileOrderRow, standIns := [], harness := (true, "24f3a2d741489c8c882ec93160b470e6e015d66bd9179474ab74526f26873e08"), looks := true }, kinds := [], alts := [], laidByText := true, laidKinds := [.data, .data, .data, .data, .sentinel, .sentinel, .pinned], laidTests := true, laidLooks := .later }
def ProfileOrderCardSaid : Prop := Claim7.holds Tryz.pinned (.plain (OpenSpec.ofChange profileOrderSpec)) profileOrderCard

/-- THE TIED CARD OF 'emendlaw12.ProfileBuilt'. -/
def profileBuiltCard : Claim7 := { stood := { row := profileBuiltRow, standIns := [], harness := (true, "24f3a2d741489c8c882ec93160b470e6e015d66bd9179474ab74526f26873e08"), looks := true }, kinds := [], alts := [], laidByText := true, laidKinds := [.data, .data, .data, .data, .sentinel, .sentinel, .pinned], laidTests := true, laidLooks := .later }
def ProfileBuiltCardSaid : Prop := Claim7.holds Tryz.pinned (.plain (OpenSpec.ofChange profileBuiltSpec)) profileBuiltCard

/-- THE TIED CARD OF 'emendlaw12.ProfileOf'. -/
def profileOfCard : Claim7 := { stood := { row := profileOfRow, standIns := [], harness := (true, "24f3a2d741489c8c882ec93160b470e6e015d66bd9179474ab74526f26873e08"), looks := true }, kinds := [], alts := [], laidByText := true, laidKinds := [.data, .data, .data, .data, .sentinel, .sentinel, .pinned], laidTests := true, laidLooks := .later }
def ProfileOfCardSaid : Prop := Claim7.holds Tryz.pinned (.plain (OpenSpec.ofChange profileOfSpec)) profileOfCard

/-- THE SECOND FORM's CARD OF 'emendlaw12.ProfileRuns'. -/
def profileRunsUptoCard : Claim7 := { stood := { row := profileRunsUptoRow, standIns := [], harness := (true, "24f3a2d741489c8c882ec93160b470e6e015d66bd9179474ab74526f26873e08"), looks := true }, kinds := [], alts := [], laidByText := true, laidKinds := [.data, .data, .data, .data, .sentinel, .sentinel, .pinned], laidTests := true, laidLooks := .later }
def ProfileRunsUptoCardSaid : Prop := Claim7.holds Tryz.pinned (.plain (OpenSpec.upto profileRunsSpec)) profileRunsUptoCard

/-- THE SECOND FORM's CARD OF 'emendlaw12.ProfileTells'. -/
def profileTellsUptoCard : Claim7 := { stood := { row := profileTellsUptoRow, standIns := [], harness := (true, "24f3a2d741489c8c882ec93160b470e6e015d66bd9179474ab74526f26873e08"), looks := true }, kinds := [], alts := [], laidByText := true, laidKinds := [.data, .data, .data, .data, .sentinel, .sentinel, .pinned], laidTests := true, laidLooks := .later }
def ProfileTellsUptoCardSaid : Prop := Claim7.holds Tryz.pinned (.plain (OpenSpec.upto profileTellsSpec)) profileTellsUptoCard

/-- THE SECOND FORM's CARD OF 'emendlaw12.ProfileRefused'. -/
def profileRefusedUptoCard : Claim7 := { stood := { row := profileRefusedUptoRow, standIns := [], harness := (true, "24f3a2d741489c8c882ec93160b470e6e015d66bd9179474ab74526f26873e08"), looks := true }, kinds := [], alts := [], laidByText := true, laidKinds := [.data, .data, .data, .data, .sentinel, .sentinel, .pinned], laidTests := true, laidLooks := .later }
def ProfileRefusedUptoCardSaid : Prop := Claim7.holds Tryz.pinned (.plain (OpenSpec.upto profileRefusedSpec)) profileRefusedUptoCard

/-- THE SECOND FORM's CARD OF 'emendlaw12.ProfileOrder'. -/
def profileOrderUptoCard : Claim7 := { stood := { row := profileOrderUptoRow, standIns := [], harness := (true, "24f3a2d741489c8c882ec93160b470e6e015d66bd9179474ab74526f26873e08"), looks := true }, kinds := [], alts := [], laidByText := true, laidKinds := [.data, .data, .data, .data, .sentinel, .sentinel, .pinned], laidTests := true, laidLooks := .later }
def ProfileOrderUptoCardSaid : Prop := Claim7.holds Tryz.pinned (.plain (OpenSpec.upto profileOrderSpec)) profileOrderUptoCard

/-- THE SECOND FORM's CARD OF 'emendlaw12.ProfileBuilt'. -/
def profileBuiltUptoCard : Claim7 := { stood := { row := profileBuiltUptoRow, standIns := [], harness := (true, "24f3a2d741489c8c882ec93160b470e6e015d66bd9179474ab74526f26873e08"), looks := true }, kinds := [], alts := [], laidByText := true, laidKinds := [.data, .data, .data, .data, .sentinel, .sentinel, .pinned], laidTests := true, laidLooks := .later }
def ProfileBuiltUptoCardSaid : Prop := Claim7.holds Tryz.pinned (.plain (OpenSpec.upto profileBuiltSpec)) profileBuiltUptoCard

/-- THE SECOND FORM's CARD OF 'emendlaw12.ProfileOf'. -/
def profileOfUptoCard : Claim7 := { stood := { row := profileOfUptoRow, standIns := [], harness := (true, "24f3a2d741489c8c882ec93160b470e6e015d66bd9179474ab74526f26873e08"), looks := true }, kinds := [], alts := [], laidByText := true, laidKinds := [.data, .data, .data, .data, .sentinel, .sentinel, .pinned], laidTests := true, laidLooks := .later }
def ProfileOfUptoCardSaid : Prop := Claim7.holds Tryz.pinned (.plain (OpenSpec.upto profileOfSpec)) profileOfUptoCard
end Rows
end Go.Proofs.YtlmoljejdakdbaaGreatDoor
