/-
  DERIVED. GIVEN WITH THE SEED: THE CARDS: each row of YtbnfgbcgpbdpcaaGreatDoorRows.lean that lists a variable, with what it lists TIED to the program's text (the seventh form; the later family's looks); each row that meets fmt, with fmt's text TOLD by the authors' own Lean function (tested against real Go, not proved from fmt's source: count such statements apart). THE CARD IS WHAT COUNTS. Prove the row's statement (the work); the ties are given (YtbnfgbcgpbdpcaaGreatDoorTie.lean); close each card by the builder's one call (the guide's Derived/Test/ToyasCard.lean, 'card_holds'). Laid BY PROGRAM, IN A SANDBOX (cutbox-door.mjs). By AI agents, Wed Nov 11 2026. No macro, syntax, notation, axiom, sorry.
-/
import Derived.Test.YtbnfgbcgpbdpcaaGreatDoorRows
import GoSem.ClaimSeven
namespace Go.Proofs.YtbnfgbcgpbdpcaaGreatDoor
namespace Rows

/-- THE TIED CARD OF 'tranchelaw24.LotmapSteps'. -/
def lotmapStepsCard : Claim7 := { stood := { row := lotmapStepsRow, standIns := [], harness := (true, "02e6de5c60f6d9641afa3690c79d431e5786f13b66f9577b376b512a28de15db"), looks := true }, kinds := [], alts := [], laidByText := true, laidKinds := [.data, .data, .data, .data, .sentinel, .sentinel, .pinned], laidTests := true, laidLooks := .later }
def LotmapStepsCardSaid : Prop := Claim7.holds Tryz.pinned (.plain (OpenSpec.ofChange lotmapStepsSpec)) lotmapStepsCard

/-- THE TIED CARD OF 'tranchelaw24.LotmapWhole'. -/
def lotmapWholeCard : Claim7 := { stood := { row := lotmapWholeRow, standIns := [], harness := (true, "02e6de5c60f6d9641afa3690c79d431e5786f13b66f9577b376b512a28de15db"), looks := true }, kinds := [], alts := [], laidByText := true, laidKinds := [.data, .data, .data, .data, .sentinel, .sentinel, .pinned], laidTests := true, laidLooks := .later }
def LotmapWholeCardSaid : Prop := Claim7.holds Tryz.pinned (.plain (OpenSpec.ofChange lotmapWholeSpec)) lotmapWholeCard

/-- THE TIED CARD OF 'tranchelaw24.LotmapCash'. -/
def lotmapCashCard : Claim7 := { stood := { row := lotmapCashRow, standIns := [], harness := (true, "02e6de5c60f6d9641afa3690c79d431e5786f13b66f9577b376b512a28de15db"), looks := true }, kinds := [], alts := [], laidByText := true, laidKinds := [.data, .data, .data, .data, .sentinel, .sentinel, .pinned], laidTests := true, laidLooks := .later }
def LotmapCashCardSaid : Prop := Claim7.holds Tryz.pinned (.plain (OpenSpec.ofChange lotmapCashSpec)) lotmapCashCard

/-- THE TIED CARD OF 'tranchelaw24.LotmapOthers'. -/
def lotmapOthersCard : Claim7 := { stood := { row := lotmapOthersRow, standIns := [], harness := (true, "02e6de5c60f6d9641afa3690c79d431e5786f13b66f9577b376b512a28de15db"), looks := true }, kinds := [], alts := [], laidByText := true, laidKinds := [.data, .data, .data, .data, .sentinel, .sentinel, .pinned], laidTests := true, laidLooks := .later }
def LotmapOthersCardSaid : Prop := Claim7.holds Tryz.pinned (.plain (OpenSpec.ofChange lotmapOthersSpec)) lotmapOthersCard

/-- THE SECOND FORM's CARD OF 'tranchelaw24.LotmapSteps'. -/
def lotmapStepsUptoCard : Claim7 := { stood := { row := lotmapStepsUptoRow, standIns := [], harness := (true, "02e6de5c60f6d9641afa3690c79d431e5786f13b66f9577b376b512a28de15db"), looks := true }, kinds := [], alts := [], laidByText := true, laidKinds := [.data, .data, .data, .data, .sentinel, .sentinel, .pinned], laidTests := true, laidLooks := .later }
def LotmapStepsUptoCardSaid : Prop := Claim7.holds Tryz.pinned (.plain (OpenSpec.upto lotmapStepsSpec)) lotmapStepsUptoCard

/-- THE SECOND FORM's CARD OF 'tranchelaw24.LotmapWhole'. -/
def lotmapWholeUptoCard : Claim7 := { stood := { row := lotmapWholeUptoRow, standIns := [], harness := (true, "02e6de5c60f6d9641afa3690c79d431e5786f13b66f9577b376b512a28de15db"), looks := true }, kinds := [], alts := [], laidByText := true, laidKinds := [.data, .data, .data, .data, .sentinel, .sentinel, .pinned], laidTests := true, laidLooks := .later }
def LotmapWholeUptoCardSaid : Prop := Claim7.holds Tryz.pinned (.plain (OpenSpec.upto lotmapWholeSpec)) lotmapWholeUptoCard

/-- THE SECOND FORM's CARD OF 'tranchelaw24.LotmapCash'. -/
def lotmapCashUptoCard : Claim7 := { stood := { row := lotmapCashUptoRow, standIns := [], harness := (true, "02e6de5c60f6d9641afa3690c79d431e5786f13b66f9577b376b512a28de15db"), looks := true }, kinds := [], alts := [], laidByText := true, laidKinds := [.data, .data, .data, .data, .sentinel, .sentinel, .pinned], laidTests := true, laidLooks := .later }
def LotmapCashUptoCardSaid : Prop := Claim7.holds Tryz.pinned (.plain (OpenSpec.upto lotmapCashSpec)) lotmapCashUptoCard

/-- THE SECOND FORM's CARD OF 'tranchelaw24.LotmapOthers'. -/
def lotmapOthersUptoCard : Claim7 := { stood := { row := lotmapOthersUptoRow, standIns := [], harness := (true, "02e6de5c60f6d9641afa3690c79d431e5786f13b66f9577b376b512a28de15db"), looks := true }, kinds := [], alts := [], laidByText := true, laidKinds := [.data, .data, .data, .data, .sentinel, .sentinel, .pinned], laidTests := true, laidLooks := .later }
def LotmapOthersUptoCardSaid : Prop := Claim7.holds Tryz.pinned (.plain (OpenSpec.upto lotmapOthersSpec)) lotmapOthersUptoCard
end Rows
end Go.Proofs.YtbnfgbcgpbdpcaaGreatDoor
