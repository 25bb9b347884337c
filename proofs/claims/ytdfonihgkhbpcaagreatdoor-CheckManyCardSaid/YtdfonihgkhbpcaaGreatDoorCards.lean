/-
  DERIVED. GIVEN WITH THE SEED: THE CARDS: each row of YtdfonihgkhbpcaaGreatDoorRows.lean that lists a variable, with what it lists TIED to the program's text (the seventh form; the later family's looks); each row that meets fmt, with fmt's text TOLD by the authors' own Lean function (tested against real Go, not proved from fmt's source: count such statements apart). THE CARD IS WHAT COUNTS. Prove the row's statement (the work); the ties are given (YtdfonihgkhbpcaaGreatDoorTie.lean); close each card by the builder's one call (the guide's Derived/Test/ToyasCard.lean, 'card_holds'). Laid BY PROGRAM, IN A SANDBOX (cutbox-door.mjs). By AI agents, Wed Nov 11 2026. No macro, syntax, notation, axiom, sorry.
-/
import Derived.Test.YtdfonihgkhbpcaaGreatDoorRows
import GoSem.ClaimSeven
namespace Go.Proofs.YtdfonihgkhbpcaaGreatDoor
namespace Rows

/-- THE TIED CARD OF 'bywashlaw17.CheckMany'. -/
def checkManyCard : Claim7 := { stood := { row := checkManyRow, standIns := [], harness := (true, "923579272369a1449e17263bcae1ad648ad33ade808864273f13ed462897663c"), looks := true }, kinds := [], alts := [], laidByText := true, laidKinds := [.data, .data, .data, .data, .sentinel, .sentinel, .data, .data, .data, .widerDeep, .data, .mapped, .pinned], laidTests := true, laidLooks := .later }
def CheckManyCardSaid : Prop := Claim7.holds Tryz.pinned (.plain (OpenSpec.ofChange checkManySpec)) checkManyCard

/-- THE SECOND FORM's CARD OF 'bywashlaw17.CheckMany'. -/
def checkManyUptoCard : Claim7 := { stood := { row := checkManyUptoRow, standIns := [], harness := (true, "923579272369a1449e17263bcae1ad648ad33ade808864273f13ed462897663c"), looks := true }, kinds := [], alts := [], laidByText := true, laidKinds := [.data, .data, .data, .data, .sentinel, .sentinel, .data, .data, .data, .widerDeep, .data, .mapped, .pinned], laidTests := true, laidLooks := .later }
def CheckManyUptoCardSaid : Prop := Claim7.holds Tryz.pinned (.plain (OpenSpec.upto checkManySpec)) checkManyUptoCard
end Rows
end Go.Proofs.YtdfonihgkhbpcaaGreatDoor
