/-
  DERIVED. GIVEN WITH THE SEED: THE CARDS: each row of YtpnncoinlopndaaGreatDoorRows.lean that lists a variable, with what it lists TIED to the program's text (the seventh form; the later family's looks); each row that meets fmt, with fmt's text TOLD by the authors' own Lean function (tested against real Go, not proved from fmt's source: count such statements apart). THE CARD IS WHAT COUNTS. Prove the row's statement (the work); the ties are given (YtpnncoinlopndaaGreatDoorTie.lean); close each card by the builder's one call (the guide's Derived/Test/ToyasCard.lean, 'card_holds'). Laid BY PROGRAM, IN A SANDBOX (cutbox-door.mjs). By AI agents, Wed Nov 11 2026. No macro, syntax, notation, axiom, sorry.
-/
import Derived.Test.YtpnncoinlopndaaGreatDoorRows
import GoSem.ClaimSeven
namespace Go.Proofs.YtpnncoinlopndaaGreatDoor
namespace Rows

/-- THE TIED CARD OF 'tranchelaw24.LotmapMaps'. -/
def lotmapMapsCard : Claim7 := { stood := { row := lotmapMapsRow, standIns := [], harness := (true, "8cf0f5b33df7fc49802b36c4d801060f1fa55abf83bf883d3d52f73ef4bd4b44"), looks := true }, kinds := [], alts := [], laidByText := true, laidKinds := [.data, .data, .data, .data, .sentinel, .sentinel, .pinned], laidTests := true, laidLooks := .later }
def LotmapMapsCardSaid : Prop := Claim7.holds Tryz.pinned (.plain (OpenSpec.ofChange lotmapMapsSpec)) lotmapMapsCard

/-- THE TIED CARD OF 'tranchelaw24.LotmapThens'. -/
def lotmapThensCard : Claim7 := { stood := { row := lotmapThensRow, standIns := [], harness := (true, "8cf0f5b33df7fc49802b36c4d801060f1fa55abf83bf883d3d52f73ef4bd4b44"), looks := true }, kinds := [], alts := [], laidByText := true, laidKinds := [.data, .data, .data, .data, .sentinel, .sentinel, .pinned], laidTests := true, laidLooks := .later }
def LotmapThensCardSaid : Prop := Claim7.holds Tryz.pinned (.plain (OpenSpec.ofChange lotmapThensSpec)) lotmapThensCard

/-- THE TIED CARD OF 'tranchelaw24.LotmapSums'. -/
def lotmapSumsCard : Claim7 := { stood := { row := lotmapSumsRow, standIns := [], harness := (true, "8cf0f5b33df7fc49802b36c4d801060f1fa55abf83bf883d3d52f73ef4bd4b44"), looks := true }, kinds := [], alts := [], laidByText := true, laidKinds := [.data, .data, .data, .data, .sentinel, .sentinel, .pinned], laidTests := true, laidLooks := .later }
def LotmapSumsCardSaid : Prop := Claim7.holds Tryz.pinned (.plain (OpenSpec.ofChange lotmapSumsSpec)) lotmapSumsCard

/-- THE SECOND FORM's CARD OF 'tranchelaw24.LotmapMaps'. -/
def lotmapMapsUptoCard : Claim7 := { stood := { row := lotmapMapsUptoRow, standIns := [], harness := (true, "8cf0f5b33df7fc49802b36c4d801060f1fa55abf83bf883d3d52f73ef4bd4b44"), looks := true }, kinds := [], alts := [], laidByText := true, laidKinds := [.data, .data, .data, .data, .sentinel, .sentinel, .pinned], laidTests := true, laidLooks := .later }
def LotmapMapsUptoCardSaid : Prop := Claim7.holds Tryz.pinned (.plain (OpenSpec.upto lotmapMapsSpec)) lotmapMapsUptoCard

/-- THE SECOND FORM's CARD OF 'tranchelaw24.LotmapThens'. -/
def lotmapThensUptoCard : Claim7 := { stood := { row := lotmapThensUptoRow, standIns := [], harness := (true, "8cf0f5b33df7fc49802b36c4d801060f1fa55abf83bf883d3d52f73ef4bd4b44"), looks := true }, kinds := [], alts := [], laidByText := true, laidKinds := [.data, .data, .data, .data, .sentinel, .sentinel, .pinned], laidTests := true, laidLooks := .later }
def LotmapThensUptoCardSaid : Prop := Claim7.holds Tryz.pinned (.plain (OpenSpec.upto lotmapThensSpec)) lotmapThensUptoCard

/-- THE SECOND FORM's CARD OF 'tranchelaw24.LotmapSums'. -/
def lotmapSumsUptoCard : Claim7 := { stood := { row := lotmapSumsUptoRow, standIns := [], harness := (true, "8cf0f5b33df7fc49802b36c4d801060f1fa55abf83bf883d3d52f73ef4bd4b44"), looks := true }, kinds := [], alts := [], laidByText := true, laidKinds := [.data, .data, .data, .data, .sentinel, .sentinel, .pinned], laidTests := true, laidLooks := .later }
def LotmapSumsUptoCardSaid : Prop := Claim7.holds Tryz.pinned (.plain (OpenSpec.upto lotmapSumsSpec)) lotmapSumsUptoCard
end Rows
end Go.Proofs.YtpnncoinlopndaaGreatDoor
