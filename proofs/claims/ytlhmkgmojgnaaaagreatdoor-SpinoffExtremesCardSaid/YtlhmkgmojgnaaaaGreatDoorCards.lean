/-
  DERIVED. GIVEN WITH THE SEED: THE CARDS: each row of YtlhmkgmojgnaaaaGreatDoorRows.lean that lists a variable, with what it lists TIED to the program's text (the seventh form; the later family's looks); each row that meets fmt, with fmt's text TOLD by the authors' own Lean function (tested against real Go, not proved from fmt's source: count such statements apart). THE CARD IS WHAT COUNTS. Prove the row's statement (the work); the ties are given (YtlhmkgmojgnaaaaGreatDoorTie.lean); close each card by the builder's one call (the guide's Derived/Test/ToyasCard.lean, 'card_holds'). Laid BY PROGRAM, IN A SANDBOX (cutbox-door.mjs). By AI agents, Wed Nov 11 2026. No macro, syntax, notation, axiom, sorry.
-/
import Derived.Test.YtlhmkgmojgnaaaaGreatDoorRows
import GoSem.ClaimSeven
namespace Go.Proofs.YtlhmkgmojgnaaaaGreatDoor
namespace Rows

/-- THE TIED CARD OF 'tranchelaw28.SpinoffExtremes'. -/
def spinoffExtremesCard : Claim7 := { stood := { row := spinoffExtremesRow, standIns := [], harness := (true, "2c9c8b541ac3607b1d66ea8ce055867ad12d08b5b102205c0c81b5318c17633b"), looks := true }, kinds := [], alts := [], laidByText := true, laidKinds := [.data, .data, .data, .data, .sentinel, .sentinel, .pinned], laidTests := true, laidLooks := .later }
def SpinoffExtremesCardSaid : Prop := Claim7.holds Tryz.pinned (.plain (OpenSpec.ofChange spinoffExtremesSpec)) spinoffExtremesCard

/-- THE SECOND FORM's CARD OF 'tranchelaw28.SpinoffExtremes'. -/
def spinoffExtremesUptoCard : Claim7 := { stood := { row := spinoffExtremesUptoRow, standIns := [], harness := (true, "2c9c8b541ac3607b1d66ea8ce055867ad12d08b5b102205c0c81b5318c17633b"), looks := true }, kinds := [], alts := [], laidByText := true, laidKinds := [.data, .data, .data, .data, .sentinel, .sentinel, .pinned], laidTests := true, laidLooks := .later }
def SpinoffExtremesUptoCardSaid : Prop := Claim7.holds Tryz.pinned (.plain (OpenSpec.upto spinoffExtremesSpec)) spinoffExtremesUptoCard
end Rows
end Go.Proofs.YtlhmkgmojgnaaaaGreatDoor
