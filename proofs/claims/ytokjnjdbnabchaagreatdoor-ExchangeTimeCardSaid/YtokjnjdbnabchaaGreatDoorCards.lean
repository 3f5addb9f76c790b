/-
  DERIVED. GIVEN WITH THE SEED: THE CARDS: each row of YtokjnjdbnabchaaGreatDoorRows.lean that lists a variable, with what it lists TIED to the program's text (the seventh form; the later family's looks); each row that meets fmt, with fmt's text TOLD by the authors' own Lean function (tested against real Go, not proved from fmt's source: count such statements apart). THE CARD IS WHAT COUNTS. Prove the row's statement (the work); the ties are given (YtokjnjdbnabchaaGreatDoorTie.lean); close each card by the builder's one call (the guide's Derived/Test/ToyasCard.lean, 'card_holds'). Laid BY PROGRAM, IN A SANDBOX (cutbox-door.mjs). By AI agents, Wed Nov 11 2026. No macro, syntax, notation, axiom, sorry.
-/
import Derived.Test.YtokjnjdbnabchaaGreatDoorRows
import GoSem.ClaimSeven
namespace Go.Proofs.YtokjnjdbnabchaaGreatDoor
namespace Rows

/-- THE TIED CARD OF 'tranchelaw16.ExchangeRates'. -/
def exchangeRatesCard : Claim7 := { stood := { row := exchangeRatesRow, standIns := [], harness := (true, "81ac81f0566cc9b2bbe2df8ce8407756931c4442264422ed1f50e556cab43b72"), looks := true }, kinds := [], alts := [], laidByText := true, laidKinds := [.data, .data, .data, .data, .sentinel, .sentinel, .pinned], laidTests := true, laidLooks := .later }
def ExchangeRatesCardSaid : Prop := Claim7.holds Tryz.pinned (.plain (OpenSpec.ofChange exchangeRatesSpec)) exchangeRatesCard

/-- THE TIED CARD OF 'tranchelaw16.ExchangeOpposite'. -/
def exchangeOppositeCard : Claim7 := { stood := { row := exchangeOppositeRow, standIns := [], harness := (true, "81ac81f0566cc9b2bbe2df8ce8407756931c4442264422ed1f50e556cab43b72"), looks := true }, kinds := [], alts := [], laidByText := true, laidKinds := [.data, .data, .data, .data, .sentinel, .sentinel, .pinned], laidTests := true, laidLooks := .later }
def ExchangeOppositeCardSaid : Prop := Claim7.holds Tryz.pinned (.plain (OpenSpec.ofChange exchangeOppositeSpec)) exchangeOppositeCard

/-- THE TIED CARD OF 'tranchelaw16.ExchangePaths'. -/
def exchangePathsCard : Claim7 := { stood := { row := exchangePathsRow, standIns := [], harness := (true, "81ac81f0566cc9b2bbe2df8ce8407756931c4442264422ed1f50e556cab43b72"), looks := true }, kinds := [], alts := [], laidByText := true, laidKinds := [.data, .data, .data, .data, .sentinel, .sentinel, .pinned], laidTests := true, laidLooks := .later }
def ExchangePathsCardSaid : Prop := Claim7.holds Tryz.pinned (.plain (OpenSpec.ofChange exchangePathsSpec)) exchangePathsCard

/-- THE TIED CARD OF 'tranchelaw16.ExchangeTime'. -/
def exchangeTimeCard : Claim7 := { stood := { row := exchangeTimeRow, standIns := [], harness := (true, "81ac81f0566cc9b2bbe2df8ce8407756931c4442264422ed1f50e556cab43b72"), looks := true }, kinds := [], alts := [], laidByText := true, laidKinds := [.data, .data, .data, .data, .sentinel, .sentinel, .pinned], laidTests := true, laidLooks := .later }
def ExchangeTimeCardSaid : Prop := Claim7.holds Tryz.pinned (.plain (OpenSpec.ofChange exchangeTimeSpec)) exchangeTimeCard

/-- THE TIED CARD OF 'tranchelaw16.ExchangeTotals'. -/
def exchangeTotalsCard : Claim7 := { stood := { row := exchangeTotalsRow, standIns := [], harness := (true, "81ac81f0566cc9b2bbe2df8ce8407756931c4442264422ed1f50e556cab43b72"), looks := true }, kinds := [], alts := [], laidByText := true, laidKinds := [.data, .data, .data, .data, .sentinel, .sentinel, .pinned], laidTests := true, laidLooks := .later }
def ExchangeTotalsCardSaid : Prop := Claim7.holds Tryz.pinned (.plain (OpenSpec.ofChange exchangeTotalsSpec)) exchangeTotalsCard

/-- THE TIED CARD OF 'tranchelaw16.ExchangeTrips'. -/
def exchangeTripsCard : Claim7 := { stood := { row := exchangeTripsRow, standIns := [], harness := (true, "81ac81f0566cc9b2bbe2df8ce8407756931c4442264422ed1f50e556cab43b72"), looks := true }, kinds := [], alts := [], laidByText := true, laidKinds := [.data, .data, .data, .data, .sentinel, .sentinel, .pinned], laidTests := true, laidLooks := .later }
def ExchangeTripsCardSaid : Prop := Claim7.holds Tryz.pinned (.plain (OpenSpec.ofChange exchangeTripsSpec)) exchangeTripsCard

/-- THE TIED CARD OF 'tranchelaw16.ExchangeBase'. -/
def exchangeBaseCard : Claim7 := { stood := { row := exchangeBaseRow, standIns := [], harness := (true, "81ac81f0566cc9b2bbe2df8ce8407756931c4442264422ed1f50e556cab43b72"), looks := true }, kinds := [], alts := [], laidByText := true, laidKinds := [.data, .data, .data, .data, .sentinel, .sentinel, .pinned], laidTests := true, laidLooks := .later }
def ExchangeBaseCardSaid : Prop := Claim7.holds Tryz.pinned (.plain (OpenSpec.ofChange exchangeBaseSpec)) exchangeBaseCard

/-- THE SECOND FORM's CARD OF 'tranchelaw16.ExchangeRates'. -/
def exchangeRatesUptoCard : Claim7 := { stood := { row := exchangeRatesUptoRow, standIns := [], harness := (true, "81ac81f0566cc9b2bbe2df8ce8407756931c4442264422ed1f50e556cab43b72"), looks := true }, kinds := [], alts := [], laidByText := true, laidKinds := [.data, .data, .data, .data, .sentinel, .sentinel, .pinned], laidTests := true, laidLooks := .later }
def ExchangeRatesUptoCardSaid : Prop := Claim7.holds Tryz.pinned (.plain (OpenSpec.upto exchangeRatesSpec)) exchangeRatesUptoCard

/-- THE SECOND FORM's CARD OF 'tranchelaw16.ExchangeOpposite'. -/
def exchangeOppositeUptoCard : Claim7 := { stood := { row := exchangeOppositeUptoRow, standIns := [], harness := (true, "81ac81f0566cc9b2bbe2df8ce8407756931c4442264422ed1f50e556cab43b72"), looks := true }, kinds := [], alts := [], laidByText := true, laidKinds := [.data, .data, .data, .data, .sentinel, .sentinel, .pinned], laidTests := true, laidLooks := .later }
def ExchangeOppositeUptoCardSaid : Prop := Claim7.holds Tryz.pinned (.plain (OpenSpec.upto exchangeOppositeSpec)) exchangeOppositeUptoCard

/-- THE SECOND FORM's CARD OF 'tranchelaw16.ExchangePaths'. -/
def exchangePathsUptoCard : Claim7 := { stood := { row := exchangePathsUptoRow, standIns := [], harness := (true, "81ac81f0566cc9b2bbe2df8ce8407756931c4442264422ed1f50e556cab43b72"), looks := true }, kinds := [], alts := [], laidByText := true, laidKinds := [.data, .data, .data, .data, .sentinel, .sentinel, .pinned], laidTests := true, laidLooks := .later }
def ExchangePathsUptoCardSaid : Prop := Claim7.holds Tryz.pinned (.plain (OpenSpec.upto exchangePathsSpec)) exchangePathsUptoCard

/-- THE SECOND FORM's CARD OF 'tranchelaw16.ExchangeTime'. -/
def exchangeTimeUptoCard : Claim7 := { stood := { row := exchangeTimeUptoRow, standIns := [], harness := (true, "81ac81f0566cc9b2bbe2df8ce8407756931c4442264422ed1f50e556cab43b72"), looks := true }, kinds := [], alts := [], laidByText := true, laidKinds := [.data, .data, .data, .data, .sentinel, .sentinel, .pinned], laidTests := true, laidLooks := .later }
def ExchangeTimeUptoCardSaid : Prop := Claim7.holds Tryz.pinned (.plain (OpenSpec.upto exchangeTimeSpec)) exchangeTimeUptoCard

/-- THE SECOND FORM's CARD OF 'tranchelaw16.ExchangeTotals'. -/
def exchangeTotalsUptoCard : Claim7 := { stood := { row := exchangeTotalsUptoRow, standIns := [], harness := (true, "81ac81f0566cc9b2bbe2df8ce8407756931c4442264422ed1f50e556cab43b72"), looks := true }, kinds := [], alts := [], laidByText := true, laidKinds := [.data, .data, .data, .data, .sentinel, .sentinel, .pinned], laidTests := true, laidLooks := .later }
def ExchangeTotalsUptoCardSaid : Prop := Claim7.holds Tryz.pinned (.plain (OpenSpec.upto exchangeTotalsSpec)) exchangeTotalsUptoCard

/-- THE SECOND FORM's CARD OF 'tranchelaw16.ExchangeTrips'. -/
def exchangeTripsUptoCard : Claim7 := { stood := { row := exchangeTripsUptoRow, standIns := [], harness := (true, "81ac81f0566cc9b2bbe2df8ce8407756931c4442264422ed1f50e556cab43b72"), looks := true }, kinds := [], alts := [], laidByText := true, laidKinds := [.data, .data, .data, .data, .sentinel, .sentinel, .pinned], laidTests := true, laidLooks := .later }
def ExchangeTripsUptoCardSaid : Prop := Claim7.holds Tryz.pinned (.plain (OpenSpec.upto exchangeTripsSpec)) exchangeTripsUptoCard

/-- THE SECOND FORM's CARD OF 'tranchelaw16.ExchangeBase'. -/
def exchangeBaseUptoCard : Claim7 := { stood := { row := exchangeBaseUptoRow, standIns := [], harness := (true, "81ac81f0566cc9b2bbe2df8ce8407756931c4442264422ed1f50e556cab43b72"), looks := true }, kinds := [], alts := [], laidByText := true, laidKinds := [.data, .data, .data, .data, .sentinel, .sentinel, .pinned], laidTests := true, laidLooks := .later }
def ExchangeBaseUptoCardSaid : Prop := Claim7.holds Tryz.pinned (.plain (OpenSpec.upto exchangeBaseSpec)) exchangeBaseUptoCard
end Rows
end Go.Proofs.YtokjnjdbnabchaaGreatDoor
