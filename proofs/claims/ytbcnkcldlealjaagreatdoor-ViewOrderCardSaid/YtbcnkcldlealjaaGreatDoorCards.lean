/-
  DERIVED. GIVEN WITH THE SEED: THE CARDS: each row of YtbcnkcldlealjaaGreatDoorRows.lean that lists a variable, with what it lists TIED to the program's text (the seventh form; the later family's looks); each row that meets fmt, with fmt's text TOLD by the authors' own Lean function (tested against real Go, not proved from fmt's source: count such statements apart). THE CARD IS WHAT COUNTS. Prove the row's statement (the work); the ties are given (YtbcnkcldlealjaaGreatDoorTie.lean); close each card by the builder's one call (the guide's Derived/Test/ToyasCard.lean, 'card_holds'). Laid BY PROGRAM, IN A SANDBOX (cutbox-door.mjs). By AI agents, Wed Nov 11 2026. No macro, syntax, notation, axiom, sorry.
-/
import Derived.Test.YtbcnkcldlealjaaGreatDoorRows
import GoSem.ClaimSeven
namespace Go.Proofs.YtbcnkcldlealjaaGreatDoor
namespace Rows

/-- THE TIED CARD OF 'tranchelaw15.ViewOf'. -/
def viewOfCard : Claim7 := { stood := { row := viewOfRow, standIns := [], harness := (true, "26422f09de9d8777ea1ce9714799a43539e24c4609da66691a8105ad9a1c13fe"), looks := true }, kinds := [], alts := [], laidByText := true, laidKinds := [.data, .data, .data, .data, .sentinel, .sentinel, .pinned], laidTests := true, laidLooks := .later }
def ViewOfCardSaid : Prop := Claim7.holds Tryz.pinned (.plain (OpenSpec.ofChange viewOfSpec)) viewOfCard

/-- THE TIED CARD OF 'tranchelaw15.ViewDiffers'. -/
def viewDiffersCard : Claim7 := { stood := { row := viewDiffersRow, standIns := [], harness := (true, "26422f09de9d8777ea1ce9714799a43539e24c4609da66691a8105ad9a1c13fe"), looks := true }, kinds := [], alts := [], laidByText := true, laidKinds := [.data, .data, .data, .data, .sentinel, .sentinel, .pinned], laidTests := true, laidLooks := .later }
def ViewDiffersCardSaid : Prop := Claim7.holds Tryz.pinned (.plain (OpenSpec.ofChange viewDiffersSpec)) viewDiffersCard

/-- THE TIED CARD OF 'tranchelaw15.ViewDays'. -/
def viewDaysCard : Claim7 := { stood := { row := viewDaysRow, standIns := [], harness := (true, "26422f09de9d8777ea1ce9714799a43539e24c4609da66691a8105ad9a1c13fe"), looks := true }, kinds := [], alts := [], laidByText := true, laidKinds := [.data, .data, .data, .data, .sentinel, .sentinel, .pinned], laidTests := true, laidLooks := .later }
def ViewDaysCardSaid : Prop := Claim7.holds Tryz.pinned (.plain (OpenSpec.ofChange viewDaysSpec)) viewDaysCard

/-- THE TIED CARD OF 'tranchelaw15.ViewReplaced'. -/
def viewReplacedCard : Claim7 := { stood := { row := viewReplacedRow, standIns := [], harness := (true, "26422f09de9d8777ea1ce9714799a43539e24c4609da66691a8105ad9a1c13fe"), looks := true }, kinds := [], alts := [], laidByText := true, laidKinds := [.data, .data, .data, .data, .sentinel, .sentinel, .pinned], laidTests := true, laidLooks := .later }
def ViewReplacedCardSaid : Prop := Claim7.holds Tryz.pinned (.plain (OpenSpec.ofChange viewReplacedSpec)) viewReplacedCard

/-- THE TIED CARD OF 'tranchelaw15.ViewSteps'. -/
def viewStepsCard : Claim7 := { stood := { row := viewStepsRow, standIns := [], harness := (true, "26422f09de9d8777ea1ce9714799a43539e24c4609da66691a8105ad9a1c13fe"), looks := true }, kinds := [], alts := [], laidByText := true, laidKinds := [.data, .data, .data, .data, .sentinel, .sentinel, .pinned], laidTests := true, laidLooks := .later }
def ViewStepsCardSaid : Prop := Claim7.holds Tryz.pinned (.plain (OpenSpec.ofChange viewStepsSpec)) viewStepsCard

/-- THE TIED CARD OF 'tranchelaw15.ViewReads'. -/
def viewReadsCard : Claim7 := { stood := { row := viewReadsRow, standIns := [], harness := (true, "26422f09de9d8777ea1ce9714799a43539e24c4609da66691a8105ad9a1c13fe"), looks := true }, kinds := [], alts := [], laidByText := true, laidKinds := [.data, .data, .data, .data, .sentinel, .sentinel, .pinned], laidTests := true, laidLooks := .later }
def ViewReadsCardSaid : Prop := Claim7.holds Tryz.pinned (.plain (OpenSpec.ofChange viewReadsSpec)) viewReadsCard

/-- THE TIED CARD OF 'tranchelaw15.ViewDifferences'. -/
def viewDifferencesCard : Claim7 := { stood := { row := viewDifferencesRow, standIns := [], harness := (true, "26422f09de9d8777ea1ce9714799a43539e24c4609da66691a8105ad9a1c13fe"), looks := true }, kinds := [], alts := [], laidByText := true, laidKinds := [.data, .data, .data, .data, .sentinel, .sentinel, .pinned], laidTests := true, laidLooks := .later }
def ViewDifferencesCardSaid : Prop := Claim7.holds Tryz.pinned (.plain (OpenSpec.ofChange viewDifferencesSpec)) viewDifferencesCard

/-- THE TIED CARD OF 'tranchelaw15.ViewOrder'. -/
def viewOrderCard : Claim7 := { stood := { row := viewOrderRow, standIns := [], harness := (true, "26422f09de9d8777ea1ce9714799a43539e24c4609da66691a8105ad9a1c13fe"), looks := true }, kinds := [], alts := [], laidByText := true, laidKinds := [.data, .data, .data, .data, .sentinel, .sentinel, .pinned], laidTests := true, laidLooks := .later }
def ViewOrderCardSaid : Prop := Claim7.holds Tryz.pinned (.plain (OpenSpec.ofChange viewOrderSpec)) viewOrderCard

/-- THE SECOND FORM's CARD OF 'tranchelaw15.ViewOf'. -/
def viewOfUptoCard : Claim7 := { stood := { row := viewOfUptoRow, standIns := [], harness := (true, "26422f09de9d8777ea1ce9714799a43539e24c4609da66691a8105ad9a1c13fe"), looks := true }, kinds := [], alts := [], laidByText := true, laidKinds := [.data, .data, .data, .data, .sentinel, .sentinel, .pinned], laidTests := true, laidLooks := .later }
def ViewOfUptoCardSaid : Prop := Claim7.holds Tryz.pinned (.plain (OpenSpec.upto viewOfSpec)) viewOfUptoCard

/-- THE SECOND FORM's CARD OF 'tranchelaw15.ViewDiffers'. -/
def viewDiffersUptoCard : Claim7 := { stood := { row := viewDiffersUptoRow, standIns := [], harness := (true, "26422f09de9d8777ea1ce9714799a43539e24c4609da66691a8105ad9a1c13fe"), looks := true }, kinds := [], alts := [], laidByText := true, laidKinds := [.data, .data, .data, .data, .sentinel, .sentinel, .pinned], laidTests := true, laidLooks := .later }
def ViewDiffersUptoCardSaid : Prop := Claim7.holds Tryz.pinned (.plain (OpenSpec.upto viewDiffersSpec)) viewDiffersUptoCard

/-- THE SECOND FORM's CARD OF 'tranchelaw15.ViewDays'. -/
def viewDaysUptoCard : Claim7 := { stood := { row := viewDaysUptoRow, standIns := [], harness := (true, "26422f09de9d8777ea1ce9714799a43539e24c4609da66691a8105ad9a1c13fe"), looks := true }, kinds := [], alts := [], laidByText := true, laidKinds := [.data, .data, .data, .data, .sentinel, .sentinel, .pinned], laidTests := true, laidLooks := .later }
def ViewDaysUptoCardSaid : Prop := Claim7.holds Tryz.pinned (.plain (OpenSpec.upto viewDaysSpec)) viewDaysUptoCard

/-- THE SECOND FORM's CARD OF 'tranchelaw15.ViewReplaced'. -/
def viewReplacedUptoCard : Claim7 := { stood := { row := viewReplacedUptoRow, standIns := [], harness := (true, "26422f09de9d8777ea1ce9714799a43539e24c4609da66691a8105ad9a1c13fe"), looks := true }, kinds := [], alts := [], laidByText := true, laidKinds := [.data, .data, .data, .data, .sentinel, .sentinel, .pinned], laidTests := true, laidLooks := .later }
def ViewReplacedUptoCardSaid : Prop := Claim7.holds Tryz.pinned (.plain (OpenSpec.upto viewReplacedSpec)) viewReplacedUptoCard

/-- THE SECOND FORM's CARD OF 'tranchelaw15.ViewSteps'. -/
def viewStepsUptoCard : Claim7 := { stood := { row := viewStepsUptoRow, standIns := [], harness := (true, "26422f09de9d8777ea1ce9714799a43539e24c4609da66691a8105ad9a1c13fe"), looks := true }, kinds := [], alts := [], laidByText := true, laidKinds := [.data, .data, .data, .data, .sentinel, .sentinel, .pinned], laidTests := true, laidLooks := .later }
def ViewStepsUptoCardSaid : Prop := Claim7.holds Tryz.pinned (.plain (OpenSpec.upto viewStepsSpec)) viewStepsUptoCard

/-- THE SECOND FORM's CARD OF 'tranchelaw15.ViewReads'. -/
def viewReadsUptoCard : Claim7 := { stood := { row := viewReadsUptoRow, standIns := [], harness := (true, "26422f09de9d8777ea1ce9714799a43539e24c4609da66691a8105ad9a1c13fe"), looks := true }, kinds := [], alts := [], laidByText := true, laidKinds := [.data, .data, .data, .data, .sentinel, .sentinel, .pinned], laidTests := true, laidLooks := .later }
def ViewReadsUptoCardSaid : Prop := Claim7.holds Tryz.pinned (.plain (OpenSpec.upto viewReadsSpec)) viewReadsUptoCard

/-- THE SECOND FORM's CARD OF 'tranchelaw15.ViewDifferences'. -/
def viewDifferencesUptoCard : Claim7 := { stood := { row := viewDifferencesUptoRow, standIns := [], harness := (true, "26422f09de9d8777ea1ce9714799a43539e24c4609da66691a8105ad9a1c13fe"), looks := true }, kinds := [], alts := [], laidByText := true, laidKinds := [.data, .data, .data, .data, .sentinel, .sentinel, .pinned], laidTests := true, laidLooks := .later }
def ViewDifferencesUptoCardSaid : Prop := Claim7.holds Tryz.pinned (.plain (OpenSpec.upto viewDifferencesSpec)) viewDifferencesUptoCard

/-- THE SECOND FORM's CARD OF 'tranchelaw15.ViewOrder'. -/
def viewOrderUptoCard : Claim7 := { stood := { row := viewOrderUptoRow, standIns := [], harness := (true, "26422f09de9d8777ea1ce9714799a43539e24c4609da66691a8105ad9a1c13fe"), looks := true }, kinds := [], alts := [], laidByText := true, laidKinds := [.data, .data, .data, .data, .sentinel, .sentinel, .pinned], laidTests := true, laidLooks := .later }
def ViewOrderUptoCardSaid : Prop := Claim7.holds Tryz.pinned (.plain (OpenSpec.upto viewOrderSpec)) viewOrderUptoCard
end Rows
end Go.Proofs.YtbcnkcldlealjaaGreatDoor
