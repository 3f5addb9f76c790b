/-
  DERIVED. GIVEN WITH THE SEED: THE CARDS: each row of YtmamnnaiogidaaaGreatDoorRows.lean that lists a variable, with what it lists TIED to the program's text (the seventh form; the later family's looks); each row that meets fmt, with fmt's text TOLD by the authors' own Lean function (tested against real Go, not proved from fmt's source: count such statements apart). THE CARD IS WHAT COUNTS. Prove the row's statement (the work); the ties are given (YtmamnnaiogidaaaGreatDoorTie.lean); close each card by the builder's one call (the guide's Derived/Test/ToyasCard.lean, 'card_holds'). Laid BY PROGRAM, IN A SANDBOX (cutbox-door.mjs). By AI agents, Wed Nov 11 2026. No macro, syntax, notation, axiom, sorry.
-/
import Derived.Test.YtmamnnaiogidaaaGreatDoorRows
import GoSem.ClaimSeven
namespace Go.Proofs.YtmamnnaiogidaaaGreatDoor
namespace Rows

/-- THE TIED CARD OF 'tranchelaw28.SpinoffEffects'. -/
def spinoffEffectsCard : Claim7 := { stood := { row := spinoffEffectsRow, standIns := [], harness := (true, "84c6752d1806a4aea005284eaa3ba771671e3145992c03f9672930392272752c"), looks := true }, kinds := [], alts := [], laidByText := true, laidKinds := [.data, .data, .data, .data, .sentinel, .sentinel, .pinned], laidTests := true, laidLooks := .later }
def SpinoffEffectsCardSaid : Prop := Claim7.holds Tryz.pinned (.plain (OpenSpec.ofChange spinoffEffectsSpec)) spinoffEffectsCard

/-- THE TIED CARD OF 'tranchelaw28.SpinoffOld'. -/
def spinoffOldCard : Claim7 := { stood := { row := spinoffOldRow, standIns := [], harness := (true, "84c6752d1806a4aea005284eaa3ba771671e3145992c03f9672930392272752c"), looks := true }, kinds := [], alts := [], laidByText := true, laidKinds := [.data, .data, .data, .data, .sentinel, .sentinel, .pinned], laidTests := true, laidLooks := .later }
def SpinoffOldCardSaid : Prop := Claim7.holds Tryz.pinned (.plain (OpenSpec.ofChange spinoffOldSpec)) spinoffOldCard

/-- THE TIED CARD OF 'tranchelaw28.SpinoffNew'. -/
def spinoffNewCard : Claim7 := { stood := { row := spinoffNewRow, standIns := [], harness := (true, "84c6752d1806a4aea005284eaa3ba771671e3145992c03f9672930392272752c"), looks := true }, kinds := [], alts := [], laidByText := true, laidKinds := [.data, .data, .data, .data, .sentinel, .sentinel, .pinned], laidTests := true, laidLooks := .later }
def SpinoffNewCardSaid : Prop := Claim7.holds Tryz.pinned (.plain (OpenSpec.ofChange spinoffNewSpec)) spinoffNewCard

/-- THE SECOND FORM's CARD OF 'tranchelaw28.SpinoffEffects'. -/
def spinoffEffectsUptoCard : Claim7 := { stood := { row := spinoffEffectsUptoRow, standIns := [], harness := (true, "84c6752d1806a4aea005284eaa3ba771671e3145992c03f9672930392272752c"), looks := true }, kinds := [], alts := [], laidByText := true, laidKinds := [.data, .data, .data, .data, .sentinel, .sentinel, .pinned], laidTests := true, laidLooks := .later }
def SpinoffEffectsUptoCardSaid : Prop := Claim7.holds Tryz.pinned (.plain (OpenSpec.upto spinoffEffectsSpec)) spinoffEffectsUptoCard

/-- THE SECOND FORM's CARD OF 'tranchelaw28.SpinoffOld'. -/
def spinoffOldUptoCard : Claim7 := { stood := { row := spinoffOldUptoRow, standIns := [], harness := (true, "84c6752d1806a4aea005284eaa3ba771671e3145992c03f9672930392272752c"), looks := true }, kinds := [], alts := [], laidByText := true, laidKinds := [.data, .data, .data, .data, .sentinel, .sentinel, .pinned], laidTests := true, laidLooks := .later }
def SpinoffOldUptoCardSaid : Prop := Claim7.holds Tryz.pinned (.plain (OpenSpec.upto spinoffOldSpec)) spinoffOldUptoCard

/-- THE SECOND FORM's CARD OF 'tranchelaw28.SpinoffNew'. -/
def spinoffNewUptoCard : Claim7 := { stood := { row := spinoffNewUptoRow, standIns := [], harness := (true, "84c6752d1806a4aea005284eaa3ba771671e3145992c03f9672930392272752c"), looks := true }, kinds := [], alts := [], laidByText := true, laidKinds := [.data, .data, .data, .data, .sentinel, .sentinel, .pinned], laidTests := true, laidLooks := .later }
def SpinoffNewUptoCardSaid : Prop := Claim7.holds Tryz.pinned (.plain (OpenSpec.upto spinoffNewSpec)) spinoffNewUptoCard
end Rows
end Go.Proofs.YtmamnnaiogidaaaGreatDoor
