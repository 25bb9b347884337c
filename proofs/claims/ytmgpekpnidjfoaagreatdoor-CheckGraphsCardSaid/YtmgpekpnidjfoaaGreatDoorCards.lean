/-
  DERIVED. GIVEN WITH THE SEED: THE CARDS: each row of YtmgpekpnidjfoaaGreatDoorRows.lean that lists a variable, with what it lists TIED to the program's text (the seventh form; the later family's looks); each row that meets fmt, with fmt's text TOLD by the authors' own Lean function (tested against real Go, not proved from fmt's source: count such statements apart). THE CARD IS WHAT COUNTS. Prove the row's statement (the work); the ties are given (YtmgpekpnidjfoaaGreatDoorTie.lean); close each card by the builder's one call (the guide's Derived/Test/ToyasCard.lean, 'card_holds'). Laid BY PROGRAM, IN A SANDBOX (cutbox-door.mjs). By AI agents, Wed Nov 11 2026. No macro, syntax, notation, axiom, sorry.
-/
import Derived.Test.YtmgpekpnidjfoaaGreatDoorRows
import GoSem.ClaimSeven
namespace Go.Proofs.YtmgpekpnidjfoaaGreatDoor
namespace Rows

/-- THE TIED CARD OF 'bywashlaw17.CheckTexts'. -/
def checkTextsCard : Claim7 := { stood := { row := checkTextsRow, standIns := [], harness := (true, "d274a2e1c2a3d233b0775b14c0e5eacb7a49f02b10a8b40e21fe30def18106b9"), looks := true }, kinds := [], alts := [], laidByText := true, laidKinds := [.data, .data, .data, .data, .sentinel, .sentinel, .data, .data, .data, .widerDeep, .data, .mapped, .pinned], laidTests := true, laidLooks := .later }
def CheckTextsCardSaid : Prop := Claim7.holds Tryz.pinned (.plain (OpenSpec.ofChange checkTextsSpec)) checkTextsCard

/-- THE TIED CARD OF 'bywashlaw17.CheckGraphs'. -/
def checkGraphsCard : Claim7 := { stood := { row := checkGraphsRow, standIns := [], harness := (true, "d274a2e1c2a3d233b0775b14c0e5eacb7a49f02b10a8b40e21fe30def18106b9"), looks := true }, kinds := [], alts := [], laidByText := true, laidKinds := [.data, .data, .data, .data, .sentinel, .sentinel, .data, .data, .data, .widerDeep, .data, .mapped, .pinned], laidTests := true, laidLooks := .later }
def CheckGraphsCardSaid : Prop := Claim7.holds Tryz.pinned (.plain (OpenSpec.ofChange checkGraphsSpec)) checkGraphsCard

/-- THE SECOND FORM's CARD OF 'bywashlaw17.CheckTexts'. -/
def checkTextsUptoCard : Claim7 := { stood := { row := checkTextsUptoRow, standIns := [], harness := (true, "d274a2e1c2a3d233b0775b14c0e5eacb7a49f02b10a8b40e21fe30def18106b9"), looks := true }, kinds := [], alts := [], laidByText := true, laidKinds := [.data, .data, .data, .data, .sentinel, .sentinel, .data, .data, .data, .widerDeep, .data, .mapped, .pinned], laidTests := true, laidLooks := .later }
def CheckTextsUptoCardSaid : Prop := Claim7.holds Tryz.pinned (.plain (OpenSpec.upto checkTextsSpec)) checkTextsUptoCard

/-- THE SECOND FORM's CARD OF 'bywashlaw17.CheckGraphs'. -/
def checkGraphsUptoCard : Claim7 := { stood := { row := checkGraphsUptoRow, standIns := [], harness := (true, "d274a2e1c2a3d233b0775b14c0e5eacb7a49f02b10a8b40e21fe30def18106b9"), looks := true }, kinds := [], alts := [], laidByText := true, laidKinds := [.data, .data, .data, .data, .sentinel, .sentinel, .data, .data, .data, .widerDeep, .data, .mapped, .pinned], laidTests := true, laidLooks := .later }
def CheckGraphsUptoCardSaid : Prop := Claim7.holds Tryz.pinned (.plain (OpenSpec.upto checkGraphsSpec)) checkGraphsUptoCard
end Rows
end Go.Proofs.YtmgpekpnidjfoaaGreatDoor
