/-
  DERIVED. GIVEN WITH THE SEED: THE CARDS: each row of YtkddgeclncafoaaGreatDoorRows.lean that lists a variable, with what it lists TIED to the program's text (the seventh form; the later family's looks); each row that meets fmt, with fmt's text TOLD by the authors' own Lean function (tested against real Go, not proved from fmt's source: count such statements apart). THE CARD IS WHAT COUNTS. Prove the row's statement (the work); the ties are given (YtkddgeclncafoaaGreatDoorTie.lean); close each card by the builder's one call (the guide's Derived/Test/ToyasCard.lean, 'card_holds'). Laid BY PROGRAM, IN A SANDBOX (cutbox-door.mjs). By AI agents, Wed Nov 11 2026. No macro, syntax, notation, axiom, sorry.
-/
import Derived.Test.YtkddgeclncafoaaGreatDoorRows
import GoSem.ClaimSeven
namespace Go.Proofs.YtkddgeclncafoaaGreatDoor
namespace Rows

/-- THE TIED CARD OF 'tranchelaw28.SpinoffEntitles'. -/
def spinoffEntitlesCard : Claim7 := { stood := { row := spinoffEntitlesRow, standIns := [], harness := (true, "291cc87089b9fd4d3997de86f245f1d968954ae8b19f3f091258fc3cffa9be11"), looks := true }, kinds := [], alts := [], laidByText := true, laidKinds := [.data, .data, .data, .data, .sentinel, .sentinel, .pinned], laidTests := true, laidLooks := .later }
def SpinoffEntitlesCardSaid : Prop := Claim7.holds Tryz.pinned (.plain (OpenSpec.ofChange spinoffEntitlesSpec)) spinoffEntitlesCard

/-- THE SECOND FORM's CARD OF 'tranchelaw28.SpinoffEntitles'. -/
def spinoffEntitlesUptoCard : Claim7 := { stood := { row := spinoffEntitlesUptoRow, standIns := [], harness := (true, "291cc87089b9fd4d3997de86f245f1d968954ae8b19f3f091258fc3cffa9be11"), looks := true }, kinds := [], alts := [], laidByText := true, laidKinds := [.data, .data, .data, .data, .sentinel, .sentinel, .pinned], laidTests := true, laidLooks := .later }
def SpinoffEntitlesUptoCardSaid : Prop := Claim7.holds Tryz.pinned (.plain (OpenSpec.upto spinoffEntitlesSpec)) spinoffEntitlesUptoCard
end Rows
end Go.Proofs.YtkddgeclncafoaaGreatDoor
