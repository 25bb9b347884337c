/-
  DERIVED. GIVEN WITH THE SEED: THE CARDS: each row of YticclabeamioiaaGreatDoorRows.lean that lists a variable, with what it lists TIED to the program's text (the seventh form; the later family's looks); each row that meets fmt, with fmt's text TOLD by the authors' own Lean function (tested against real Go, not proved from fmt's source: count such statements apart). THE CARD IS WHAT COUNTS. Prove the row's statement (the work); the ties are given (YticclabeamioiaaGreatDoorTie.lean); close each card by the builder's one call (the guide's Derived/Test/ToyasCard.lean, 'card_holds'). Laid BY PROGRAM, IN A SANDBOX (cutbox-door.mjs). By AI agents, Wed Nov 11 2026. No macro, syntax, notation, axiom, sorry.
-/
import Derived.Test.YticclabeamioiaaGreatDoorRows
import GoSem.ClaimSeven
namespace Go.Proofs.YticclabeamioiaaGreatDoor
namespace Rows

/-- THE TIED CARD OF 'bywashlaw23.FreshAgain'. -/
def freshAgainCard : Claim7 := { stood := { row := freshAgainRow, standIns := [], harness := (true, "eee515a84d7778fc207775b21fa46cc1e073d2b9d86d616eba1dea4cf0fa38aa"), looks := true }, kinds := [], alts := [], laidByText := true, laidKinds := [.data, .data, .data, .data, .sentinel, .sentinel, .data, .data, .data, .data, .mapped, .pinned], laidTests := true, laidLooks := .later }
def FreshAgainCardSaid : Prop := Claim7.holds Tryz.pinned (.plain (OpenSpec.ofChange freshAgainSpec)) freshAgainCard

/-- THE SECOND FORM's CARD OF 'bywashlaw23.FreshAgain'. -/
def freshAgainUptoCard : Claim7 := { stood := { row := freshAgainUptoRow, standIns := [], harness := (true, "eee515a84d7778fc207775b21fa46cc1e073d2b9d86d616eba1dea4cf0fa38aa"), looks := true }, kinds := [], alts := [], laidByText := true, laidKinds := [.data, .data, .data, .data, .sentinel, .sentinel, .data, .data, .data, .data, .mapped, .pinned], laidTests := true, laidLooks := .later }
def FreshAgainUptoCardSaid : Prop := Claim7.holds Tryz.pinned (.plain (OpenSpec.upto freshAgainSpec)) freshAgainUptoCard
end Rows
end Go.Proofs.YticclabeamioiaaGreatDoor
