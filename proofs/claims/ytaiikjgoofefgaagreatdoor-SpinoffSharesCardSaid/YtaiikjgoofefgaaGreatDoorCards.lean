/-
  DERIVED. GIVEN WITH THE SEED: THE CARDS: each row of YtaiikjgoofefgaaGreatDoorRows.lean that lists a variable, with what it lists TIED to the program's text (the seventh form; the later family's looks); each row that meets fmt, with fmt's text TOLD by the authors' own Lean function (tested against real Go, not proved from fmt's source: count such statements apart). THE CARD IS WHAT COUNTS. Prove the row's statement (the work); the ties are given (YtaiikjgoofefgaaGreatDoorTie.lean); close each card by the builder's one call (the guide's Derived/Test/ToyasCard.lean, 'card_holds'). Laid BY PROGRAM, IN A SANDBOX (cutbox-door.mjs). By AI agents, Wed Nov 11 2026. No macro, syntax, notation, axiom, sorry.
-/
import Derived.Test.YtaiikjgoofefgaaGreatDoorRows
import GoSem.ClaimSeven
namespace Go.Proofs.YtaiikjgoofefgaaGreatDoor
namespace Rows

/-- THE TIED CARD OF 'tranchelaw28.SpinoffShares'. -/
def spinoffSharesCard : Claim7 := { stood := { row := spinoffSharesRow, standIns := [], harness := (true, "c69a422bdf9c52e68650fb95c4446db6d8b67fa6c87d45bf355cde9c64e195e3"), looks := true }, kinds := [], alts := [], laidByText := true, laidKinds := [.data, .data, .data, .data, .sentinel, .sentinel, .pinned], laidTests := true, laidLooks := .later }
def SpinoffSharesCardSaid : Prop := Claim7.holds Tryz.pinned (.plain (OpenSpec.ofChange spinoffSharesSpec)) spinoffSharesCard

/-- THE TIED CARD OF 'tranchelaw28.SpinoffValues'. -/
def spinoffValuesCard : Claim7 := { stood := { row := spinoffValuesRow, standIns := [], harness := (true, "c69a422bdf9c52e68650fb95c4446db6d8b67fa6c87d45bf355cde9c64e195e3"), looks := true }, kinds := [], alts := [], laidByText := true, laidKinds := [.data, .data, .data, .data, .sentinel, .sentinel, .pinned], laidTests := true, laidLooks := .later }
def SpinoffValuesCardSaid : Prop := Claim7.holds Tryz.pinned (.plain (OpenSpec.ofChange spinoffValuesSpec)) spinoffValuesCard

/-- THE SECOND FORM's CARD OF 'tranchelaw28.SpinoffShares'. -/
def spinoffSharesUptoCard : Claim7 := { stood := { row := spinoffSharesUptoRow, standIns := [], harness := (true, "c69a422bdf9c52e68650fb95c4446db6d8b67fa6c87d45bf355cde9c64e195e3"), looks := true }, kinds := [], alts := [], laidByText := true, laidKinds := [.data, .data, .data, .data, .sentinel, .sentinel, .pinned], laidTests := true, laidLooks := .later }
def SpinoffSharesUptoCardSaid : Prop := Claim7.holds Tryz.pinned (.plain (OpenSpec.upto spinoffSharesSpec)) spinoffSharesUptoCard

/-- THE SECOND FORM's CARD OF 'tranchelaw28.SpinoffValues'. -/
def spinoffValuesUptoCard : Claim7 := { stood := { row := spinoffValuesUptoRow, standIns := [], harness := (true, "c69a422bdf9c52e68650fb95c4446db6d8b67fa6c87d45bf355cde9c64e195e3"), looks := true }, kinds := [], alts := [], laidByText := true, laidKinds := [.data, .data, .data, .data, .sentinel, .sentinel, .pinned], laidTests := true, laidLooks := .later }
def SpinoffValuesUptoCardSaid : Prop := Claim7.holds Tryz.pinned (.plain (OpenSpec.upto spinoffValuesSpec)) spinoffValuesUptoCard
end Rows
end Go.Proofs.YtaiikjgoofefgaaGreatDoor
