/-
  DERIVED. GIVEN WITH THE SEED: THE CARDS: each row of YtmfjmngebldanaaGreatDoorRows.lean that lists a variable, with what it lists TIED to the program's text (the seventh form; the later family's looks); each row that meets fmt, with fmt's text TOLD by the authors' own Lean function (tested against real Go, not proved from fmt's source: count such statements apart). THE CARD IS WHAT COUNTS. Prove the row's statement (the work); the ties are given (YtmfjmngebldanaaGreatDoorTie.lean); close each card by the builder's one call (the guide's Derived/Test/ToyasCard.lean, 'card_holds'). Laid BY PROGRAM, IN A SANDBOX (cutbox-door.mjs). By AI agents, Wed Nov 11 2026. No macro, syntax, notation, axiom, sorry.
-/
import Derived.Test.YtmfjmngebldanaaGreatDoorRows
import GoSem.ClaimSeven
namespace Go.Proofs.YtmfjmngebldanaaGreatDoor
namespace Rows

/-- THE TIED CARD OF 'tranchelaw15.ViewOf'. -/
def viewOfCard : Claim7 := { stood := { row := viewOfRow, standIns := [], harness := (true, "967a3fa06910dcb4e404ebfbf1e38867bb366fdb0b29ec4eb9920f44e3acf6ab"), looks := true }, kinds := [], alts := [], laidByText := true, laidKinds := [.data, .data, .data, .data, .sentinel, .sentinel, .pinned], laidTests := true, laidLooks := .later }
def ViewOfCardSaid : Prop := Claim7.holds Tryz.pinned (.plain (OpenSpec.ofChange viewOfSpec)) viewOfCard

/-- THE TIED CARD OF 'tranchelaw15.ViewDiffers'. -/
def viewDiffersCard : Claim7 := { stood := { row := viewDiffersRow, standIns := [], harness := (true, "967a3fa06910dcb4e404ebfbf1e38867bb366fdb0b29ec4eb9920f44e3acf6ab"), looks := true }, kinds := [], alts := [], laidByText := true, laidKinds := [.data, .data, .data, .data, .sentinel, .sentinel, .pinned], laidTests := true, laidLooks := .later }
def ViewDiffersCardSaid : Prop := Claim7.holds Tryz.pinned (.plain (OpenSpec.ofChange viewDiffersSpec)) viewDiffersCard

/-- THE TIED CARD OF 'tranchelaw15.ViewReads'. -/
def viewReadsCard : Claim7 := { stood := { row := viewReadsRow, standIns := [], harness := (true, "967a3fa06910dcb4e404ebfbf1e38867bb366fdb0b29ec4eb9920f44e3acf6ab"), looks := true }, kinds := [], alts := [], laidByText := true, laidKinds := [.data, .data, .data, .data, .sentinel, .sentinel, .pinned], laidTests := true, laidLooks := .later }
def ViewReadsCardSaid : Prop := Claim7.holds Tryz.pinned (.plain (OpenSpec.ofChange viewReadsSpec)) viewReadsCard

/-- THE SECOND FORM's CARD OF 'tranchelaw15.ViewOf'. -/
def viewOfUptoCard : Claim7 := { stood := { row := viewOfUptoRow, standIns := [], harness := (true, "967a3fa06910dcb4e404ebfbf1e38867bb366fdb0b29ec4eb9920f44e3acf6ab"), looks := true }, kinds := [], alts := [], laidByText := true, laidKinds := [.data, .data, .data, .data, .sentinel, .sentinel, .pinned], laidTests := true, laidLooks := .later }
def ViewOfUptoCardSaid : Prop := Claim7.holds Tryz.pinned (.plain (OpenSpec.upto viewOfSpec)) viewOfUptoCard

/-- THE SECOND FORM's CARD OF 'tranchelaw15.ViewDiffers'. -/
def viewDiffersUptoCard : Claim7 := { stood := { row := viewDiffersUptoRow, standIns := [], harness := (true, "967a3fa06910dcb4e404ebfbf1e38867bb366fdb0b29ec4eb9920f44e3acf6ab"), looks := true }, kinds := [], alts := [], laidByText := true, laidKinds := [.data, .data, .data, .data, .sentinel, .sentinel, .pinned], laidTests := true, laidLooks := .later }
def ViewDiffersUptoCardSaid : Prop := Claim7.holds Tryz.pinned (.plain (OpenSpec.upto viewDiffersSpec)) viewDiffersUptoCard

/-- THE SECOND FORM's CARD OF 'tranchelaw15.ViewReads'. -/
def viewReadsUptoCard : Claim7 := { stood := { row := viewReadsUptoRow, standIns := [], harness := (true, "967a3fa06910dcb4e404ebfbf1e38867bb366fdb0b29ec4eb9920f44e3acf6ab"), looks := true }, kinds := [], alts := [], laidByText := true, laidKinds := [.data, .data, .data, .data, .sentinel, .sentinel, .pinned], laidTests := true, laidLooks := .later }
def ViewReadsUptoCardSaid : Prop := Claim7.holds Tryz.pinned (.plain (OpenSpec.upto viewReadsSpec)) viewReadsUptoCard
end Rows
end Go.Proofs.YtmfjmngebldanaaGreatDoor
