/-
  DERIVED. GIVEN WITH THE SEED: THE CARDS: each row of YtndndphfblijpaaGreatDoorRows.lean that lists a variable, with what it lists TIED to the program's text (the seventh form; the later family's looks); each row that meets fmt, with fmt's text TOLD by the authors' own Lean function (tested against real Go, not proved from fmt's source: count such statements apart). THE CARD IS WHAT COUNTS. Prove the row's statement (the work); the ties are given (YtndndphfblijpaaGreatDoorTie.lean); close each card by the builder's one call (the guide's Derived/Test/ToyasCard.lean, 'card_holds'). Laid BY PROGRAM, IN A SANDBOX (cutbox-door.mjs). By AI agents, Wed Nov 11 2026. No macro, syntax, notation, axiom, sorry.
-/
import Derived.Test.YtndndphfblijpaaGreatDoorRows
import GoSem.ClaimSeven
namespace Go.Proofs.YtndndphfblijpaaGreatDoor
namespace Rows

/-- THE TIED CARD OF 'tranchelaw24.LotmapCosts'. -/
def lotmapCostsCard : Claim7 := { stood := { row := lotmapCostsRow, standIns := [], harness := (true, "d9d65a5b7ad708012ed97a42b39f071f3a886b9a43f334df86af943fe19719de"), looks := true }, kinds := [], alts := [], laidByText := true, laidKinds := [.data, .data, .data, .data, .sentinel, .sentinel, .pinned], laidTests := true, laidLooks := .later }
def LotmapCostsCardSaid : Prop := Claim7.holds Tryz.pinned (.plain (OpenSpec.ofChange lotmapCostsSpec)) lotmapCostsCard

/-- THE TIED CARD OF 'tranchelaw24.LotmapSuccession'. -/
def lotmapSuccessionCard : Claim7 := { stood := { row := lotmapSuccessionRow, standIns := [], harness := (true, "d9d65a5b7ad708012ed97a42b39f071f3a886b9a43f334df86af943fe19719de"), looks := true }, kinds := [], alts := [], laidByText := true, laidKinds := [.data, .data, .data, .data, .sentinel, .sentinel, .pinned], laidTests := true, laidLooks := .later }
def LotmapSuccessionCardSaid : Prop := Claim7.holds Tryz.pinned (.plain (OpenSpec.ofChange lotmapSuccessionSpec)) lotmapSuccessionCard

/-- THE TIED CARD OF 'tranchelaw24.LotmapQuantities'. -/
def lotmapQuantitiesCard : Claim7 := { stood := { row := lotmapQuantitiesRow, standIns := [], harness := (true, "d9d65a5b7ad708012ed97a42b39f071f3a886b9a43f334df86af943fe19719de"), looks := true }, kinds := [], alts := [], laidByText := true, laidKinds := [.data, .data, .data, .data, .sentinel, .sentinel, .pinned], laidTests := true, laidLooks := .later }
def LotmapQuantitiesCardSaid : Prop := Claim7.holds Tryz.pinned (.plain (OpenSpec.ofChange lotmapQuantitiesSpec)) lotmapQuantitiesCard

/-- THE SECOND FORM's CARD OF 'tranchelaw24.LotmapCosts'. -/
def lotmapCostsUptoCard : Claim7 := { stood := { row := lotmapCostsUptoRow, standIns := [], harness := (true, "d9d65a5b7ad708012ed97a42b39f071f3a886b9a43f334df86af943fe19719de"), looks := true }, kinds := [], alts := [], laidByText := true, laidKinds := [.data, .data, .data, .data, .sentinel, .sentinel, .pinned], laidTests := true, laidLooks := .later }
def LotmapCostsUptoCardSaid : Prop := Claim7.holds Tryz.pinned (.plain (OpenSpec.upto lotmapCostsSpec)) lotmapCostsUptoCard

/-- THE SECOND FORM's CARD OF 'tranchelaw24.LotmapSuccession'. -/
def lotmapSuccessionUptoCard : Claim7 := { stood := { row := lotmapSuccessionUptoRow, standIns := [], harness := (true, "d9d65a5b7ad708012ed97a42b39f071f3a886b9a43f334df86af943fe19719de"), looks := true }, kinds := [], alts := [], laidByText := true, laidKinds := [.data, .data, .data, .data, .sentinel, .sentinel, .pinned], laidTests := true, laidLooks := .later }
def LotmapSuccessionUptoCardSaid : Prop := Claim7.holds Tryz.pinned (.plain (OpenSpec.upto lotmapSuccessionSpec)) lotmapSuccessionUptoCard

/-- THE SECOND FORM's CARD OF 'tranchelaw24.LotmapQuantities'. -/
def lotmapQuantitiesUptoCard : Claim7 := { stood := { row := lotmapQuantitiesUptoRow, standIns := [], harness := (true, "d9d65a5b7ad708012ed97a42b39f071f3a886b9a43f334df86af943fe19719de"), looks := true }, kinds := [], alts := [], laidByText := true, laidKinds := [.data, .data, .data, .data, .sentinel, .sentinel, .pinned], laidTests := true, laidLooks := .later }
def LotmapQuantitiesUptoCardSaid : Prop := Claim7.holds Tryz.pinned (.plain (OpenSpec.upto lotmapQuantitiesSpec)) lotmapQuantitiesUptoCard
end Rows
end Go.Proofs.YtndndphfblijpaaGreatDoor
