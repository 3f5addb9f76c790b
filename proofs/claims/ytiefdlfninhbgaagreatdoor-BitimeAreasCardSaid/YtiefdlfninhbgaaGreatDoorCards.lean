/-
  DERIVED. GIVEN WITH THE SEED: THE CARDS: each row of YtiefdlfninhbgaaGreatDoorRows.lean that lists a variable, with what it lists TIED to the program's text (the seventh form; the later family's looks); each row that meets fmt, with fmt's text TOLD by the authors' own Lean function (tested against real Go, not proved from fmt's source: count such statements apart). THE CARD IS WHAT COUNTS. Prove the row's statement (the work); the ties are given (YtiefdlfninhbgaaGreatDoorTie.lean); close each card by the builder's one call (the guide's Derived/Test/ToyasCard.lean, 'card_holds'). Laid BY PROGRAM, IN A SANDBOX (cutbox-door.mjs). By AI agents, Wed Nov 11 2026. No macro, syntax, notation, axiom, sorry.
-/
import Derived.Test.YtiefdlfninhbgaaGreatDoorRows
import GoSem.ClaimSeven
namespace Go.Proofs.YtiefdlfninhbgaaGreatDoor
namespace Rows

/-- THE TIED CARD OF 'tranchelaw18.BitimeSets'. -/
def bitimeSetsCard : Claim7 := { stood := { row := bitimeSetsRow, standIns := [], harness := (true, "3c0058c8101196441a1fbb2dbfd97e3351f6eba45118704185812504f555856d"), looks := true }, kinds := [], alts := [], laidByText := true, laidKinds := [.data, .data, .data, .data, .pinned], laidTests := true, laidLooks := .later }
def BitimeSetsCardSaid : Prop := Claim7.holds Tryz.pinned (.plain (OpenSpec.ofChange bitimeSetsSpec)) bitimeSetsCard

/-- THE TIED CARD OF 'tranchelaw18.BitimePairs'. -/
def bitimePairsCard : Claim7 := { stood := { row := bitimePairsRow, standIns := [], harness := (true, "3c0058c8101196441a1fbb2dbfd97e3351f6eba45118704185812504f555856d"), looks := true }, kinds := [], alts := [], laidByText := true, laidKinds := [.data, .data, .data, .data, .pinned], laidTests := true, laidLooks := .later }
def BitimePairsCardSaid : Prop := Claim7.holds Tryz.pinned (.plain (OpenSpec.ofChange bitimePairsSpec)) bitimePairsCard

/-- THE TIED CARD OF 'tranchelaw18.BitimeAlgebra'. -/
def bitimeAlgebraCard : Claim7 := { stood := { row := bitimeAlgebraRow, standIns := [], harness := (true, "3c0058c8101196441a1fbb2dbfd97e3351f6eba45118704185812504f555856d"), looks := true }, kinds := [], alts := [], laidByText := true, laidKinds := [.data, .data, .data, .data, .pinned], laidTests := true, laidLooks := .later }
def BitimeAlgebraCardSaid : Prop := Claim7.holds Tryz.pinned (.plain (OpenSpec.ofChange bitimeAlgebraSpec)) bitimeAlgebraCard

/-- THE TIED CARD OF 'tranchelaw18.BitimeMembers'. -/
def bitimeMembersCard : Claim7 := { stood := { row := bitimeMembersRow, standIns := [], harness := (true, "3c0058c8101196441a1fbb2dbfd97e3351f6eba45118704185812504f555856d"), looks := true }, kinds := [], alts := [], laidByText := true, laidKinds := [.data, .data, .data, .data, .pinned], laidTests := true, laidLooks := .later }
def BitimeMembersCardSaid : Prop := Claim7.holds Tryz.pinned (.plain (OpenSpec.ofChange bitimeMembersSpec)) bitimeMembersCard

/-- THE TIED CARD OF 'tranchelaw18.BitimeUnique'. -/
def bitimeUniqueCard : Claim7 := { stood := { row := bitimeUniqueRow, standIns := [], harness := (true, "3c0058c8101196441a1fbb2dbfd97e3351f6eba45118704185812504f555856d"), looks := true }, kinds := [], alts := [], laidByText := true, laidKinds := [.data, .data, .data, .data, .pinned], laidTests := true, laidLooks := .later }
def BitimeUniqueCardSaid : Prop := Claim7.holds Tryz.pinned (.plain (OpenSpec.ofChange bitimeUniqueSpec)) bitimeUniqueCard

/-- THE TIED CARD OF 'tranchelaw18.BitimeAreas'. -/
def bitimeAreasCard : Claim7 := { stood := { row := bitimeAreasRow, standIns := [], harness := (true, "3c0058c8101196441a1fbb2dbfd97e3351f6eba45118704185812504f555856d"), looks := true }, kinds := [], alts := [], laidByText := true, laidKinds := [.data, .data, .data, .data, .sentinel, .sentinel, .pinned], laidTests := true, laidLooks := .later }
def BitimeAreasCardSaid : Prop := Claim7.holds Tryz.pinned (.plain (OpenSpec.ofChange bitimeAreasSpec)) bitimeAreasCard

/-- THE SECOND FORM's CARD OF 'tranchelaw18.BitimeSets'. -/
def bitimeSetsUptoCard : Claim7 := { stood := { row := bitimeSetsUptoRow, standIns := [], harness := (true, "3c0058c8101196441a1fbb2dbfd97e3351f6eba45118704185812504f555856d"), looks := true }, kinds := [], alts := [], laidByText := true, laidKinds := [.data, .data, .data, .data, .pinned], laidTests := true, laidLooks := .later }
def BitimeSetsUptoCardSaid : Prop := Claim7.holds Tryz.pinned (.plain (OpenSpec.upto bitimeSetsSpec)) bitimeSetsUptoCard

/-- THE SECOND FORM's CARD OF 'tranchelaw18.BitimePairs'. -/
def bitimePairsUptoCard : Claim7 := { stood := { row := bitimePairsUptoRow, standIns := [], harness := (true, "3c0058c8101196441a1fbb2dbfd97e3351f6eba45118704185812504f555856d"), looks := true }, kinds := [], alts := [], laidByText := true, laidKinds := [.data, .data, .data, .data, .pinned], laidTests := true, laidLooks := .later }
def BitimePairsUptoCardSaid : Prop := Claim7.holds Tryz.pinned (.plain (OpenSpec.upto bitimePairsSpec)) bitimePairsUptoCard

/-- THE SECOND FORM's CARD OF 'tranchelaw18.BitimeAlgebra'. -/
def bitimeAlgebraUptoCard : Claim7 := { stood := { row := bitimeAlgebraUptoRow, standIns := [], harness := (true, "3c0058c8101196441a1fbb2dbfd97e3351f6eba45118704185812504f555856d"), looks := true }, kinds := [], alts := [], laidByText := true, laidKinds := [.data, .data, .data, .data, .pinned], laidTests := true, laidLooks := .later }
def BitimeAlgebraUptoCardSaid : Prop := Claim7.holds Tryz.pinned (.plain (OpenSpec.upto bitimeAlgebraSpec)) bitimeAlgebraUptoCard

/-- THE SECOND FORM's CARD OF 'tranchelaw18.BitimeMembers'. -/
def bitimeMembersUptoCard : Claim7 := { stood := { row := bitimeMembersUptoRow, standIns := [], harness := (true, "3c0058c8101196441a1fbb2dbfd97e3351f6eba45118704185812504f555856d"), looks := true }, kinds := [], alts := [], laidByText := true, laidKinds := [.data, .data, .data, .data, .pinned], laidTests := true, laidLooks := .later }
def BitimeMembersUptoCardSaid : Prop := Claim7.holds Tryz.pinned (.plain (OpenSpec.upto bitimeMembersSpec)) bitimeMembersUptoCard

/-- THE SECOND FORM's CARD OF 'tranchelaw18.BitimeUnique'. -/
def bitimeUniqueUptoCard : Claim7 := { stood := { row := bitimeUniqueUptoRow, standIns := [], harness := (true, "3c0058c8101196441a1fbb2dbfd97e3351f6eba45118704185812504f555856d"), looks := true }, kinds := [], alts := [], laidByText := true, laidKinds := [.data, .data, .data, .data, .pinned], laidTests := true, laidLooks := .later }
def BitimeUniqueUptoCardSaid : Prop := Claim7.holds Tryz.pinned (.plain (OpenSpec.upto bitimeUniqueSpec)) bitimeUniqueUptoCard

/-- THE SECOND FORM's CARD OF 'tranchelaw18.BitimeAreas'. -/
def bitimeAreasUptoCard : Claim7 := { stood := { row := bitimeAreasUptoRow, standIns := [], harness := (true, "3c0058c8101196441a1fbb2dbfd97e3351f6eba45118704185812504f555856d"), looks := true }, kinds := [], alts := [], laidByText := true, laidKinds := [.data, .data, .data, .data, .sentinel, .sentinel, .pinned], laidTests := true, laidLooks := .later }
def BitimeAreasUptoCardSaid : Prop := Claim7.holds Tryz.pinned (.plain (OpenSpec.upto bitimeAreasSpec)) bitimeAreasUptoCard
end Rows
end Go.Proofs.YtiefdlfninhbgaaGreatDoor
