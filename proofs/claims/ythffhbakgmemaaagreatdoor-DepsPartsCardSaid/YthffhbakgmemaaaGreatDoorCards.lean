/-
  DERIVED. GIVEN WITH THE SEED: THE CARDS: each row of YthffhbakgmemaaaGreatDoorRows.lean that lists a variable, with what it lists TIED to the program's text (the seventh form; the later family's looks); each row that meets fmt, with fmt's text TOLD by the authors' own Lean function (tested against real Go, not proved from fmt's source: count such statements apart). THE CARD IS WHAT COUNTS. Prove the row's statement (the work); the ties are given (YthffhbakgmemaaaGreatDoorTie.lean); close each card by the builder's one call (the guide's Derived/Test/ToyasCard.lean, 'card_holds'). Laid BY PROGRAM, IN A SANDBOX (cutbox-door.mjs). By AI agents, Wed Nov 11 2026. No macro, syntax, notation, axiom, sorry.
-/
import Derived.Test.YthffhbakgmemaaaGreatDoorRows
import GoSem.ClaimSeven
namespace Go.Proofs.YthffhbakgmemaaaGreatDoor
namespace Rows

/-- THE TIED CARD OF 'bywashlaw18.DepsRanges'. -/
def depsRangesCard : Claim7 := { stood := { row := depsRangesRow, standIns := [], harness := (true, "7da1767687119485572d9fc920a8409517d0c09052da95676706462585dc855f"), looks := true }, kinds := [], alts := [], laidByText := true, laidKinds := [.data, .data, .data, .data, .sentinel, .sentinel, .data, .data, .data, .data, .mapped, .pinned], laidTests := true, laidLooks := .later }
def DepsRangesCardSaid : Prop := Claim7.holds Tryz.pinned (.plain (OpenSpec.ofChange depsRangesSpec)) depsRangesCard

/-- THE TIED CARD OF 'bywashlaw18.DepsParts'. -/
def depsPartsCard : Claim7 := { stood := { row := depsPartsRow, standIns := [], harness := (true, "7da1767687119485572d9fc920a8409517d0c09052da95676706462585dc855f"), looks := true }, kinds := [], alts := [], laidByText := true, laidKinds := [.data, .data, .data, .data, .sentinel, .sentinel, .data, .data, .data, .data, .mapped, .pinned], laidTests := true, laidLooks := .later }
def DepsPartsCardSaid : Prop := Claim7.holds Tryz.pinned (.plain (OpenSpec.ofChange depsPartsSpec)) depsPartsCard

/-- THE SECOND FORM's CARD OF 'bywashlaw18.DepsRanges'. -/
def depsRangesUptoCard : Claim7 := { stood := { row := depsRangesUptoRow, standIns := [], harness := (true, "7da1767687119485572d9fc920a8409517d0c09052da95676706462585dc855f"), looks := true }, kinds := [], alts := [], laidByText := true, laidKinds := [.data, .data, .data, .data, .sentinel, .sentinel, .data, .data, .data, .data, .mapped, .pinned], laidTests := true, laidLooks := .later }
def DepsRangesUptoCardSaid : Prop := Claim7.holds Tryz.pinned (.plain (OpenSpec.upto depsRangesSpec)) depsRangesUptoCard

/-- THE SECOND FORM's CARD OF 'bywashlaw18.DepsParts'. -/
def depsPartsUptoCard : Claim7 := { stood := { row := depsPartsUptoRow, standIns := [], harness := (true, "7da1767687119485572d9fc920a8409517d0c09052da95676706462585dc855f"), looks := true }, kinds := [], alts := [], laidByText := true, laidKinds := [.data, .data, .data, .data, .sentinel, .sentinel, .data, .data, .data, .data, .mapped, .pinned], laidTests := true, laidLooks := .later }
def DepsPartsUptoCardSaid : Prop := Claim7.holds Tryz.pinned (.plain (OpenSpec.upto depsPartsSpec)) depsPartsUptoCard
end Rows
end Go.Proofs.YthffhbakgmemaaaGreatDoor
