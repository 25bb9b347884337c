/-
  DERIVED. GIVEN WITH THE SEED: THE CARDS: each row of YtaobjdbdpdbekaaGreatDoorRows.lean that lists a variable, with what it lists TIED to the program's text (the seventh form; the later family's looks); each row that meets fmt, with fmt's text TOLD by the authors' own Lean function (tested against real Go, not proved from fmt's source: count such statements apart). THE CARD IS WHAT COUNTS. Prove the row's statement (the work); the ties are given (YtaobjdbdpdbekaaGreatDoorTie.lean); close each card by the builder's one call (the guide's Derived/Test/ToyasCard.lean, 'card_holds'). Laid BY PROGRAM, IN A SANDBOX (cutbox-door.mjs). By AI agents, Wed Nov 11 2026. No macro, syntax, notation, axiom, sorry.
-/
import Derived.Test.YtaobjdbdpdbekaaGreatDoorRows
import GoSem.ClaimSeven
namespace Go.Proofs.YtaobjdbdpdbekaaGreatDoor
namespace Rows

/-- THE TIED CARD OF 'bywashlaw17.CheckMany'. -/
def checkManyCard : Claim7 := { stood := { row := checkManyRow, standIns := [], harness := (true, "16ac9fd766a940493da2ea731629e89293bfdfaa8a4b0b6e877819092a4a148f"), looks := true }, kinds := [], alts := [], laidByText := true, laidKinds := [.data, .data, .data, .data, .sentinel, .sentinel, .data, .data, .data, .widerDeep, .data, .mapped, .pinned], laidTests := true, laidLooks := .later }
def CheckManyCardSaid : Prop := Claim7.holds Tryz.pinned (.plain (OpenSpec.ofChange checkManySpec)) checkManyCard

/-- THE TIED CARD OF 'bywashlaw17.CheckTexts'. -/
def checkTextsCard : Claim7 := { stood := { row := checkTextsRow, standIns := [], harness := (true, "16ac9fd766a940493da2ea731629e89293bfdfaa8a4b0b6e877819092a4a148f"), looks := true }, kinds := [], alts := [], laidByText := true, laidKinds := [.data, .data, .data, .data, .sentinel, .sentinel, .data, .data, .data, .widerDeep, .data, .mapped, .pinned], laidTests := true, laidLooks := .later }
def CheckTextsCardSaid : Prop := Claim7.holds Tryz.pinned (.plain (OpenSpec.ofChange checkTextsSpec)) checkTextsCard

/-- THE TIED CARD OF 'bywashlaw17.CheckOwn'. -/
def checkOwnCard : Claim7 := { stood := { row := checkOwnRow, standIns := [], harness := (true, "16ac9fd766a940493da2ea731629e89293bfdfaa8a4b0b6e877819092a4a148f"), looks := true }, kinds := [], alts := [], laidByText := true, laidKinds := [.data, .data, .data, .data, .sentinel, .sentinel, .data, .data, .data, .widerDeep, .data, .mapped, .pinned], laidTests := true, laidLooks := .later }
def CheckOwnCardSaid : Prop := Claim7.holds Tryz.pinned (.plain (OpenSpec.ofChange checkOwnSpec)) checkOwnCard

/-- THE TIED CARD OF 'bywashlaw17.CheckEmpty'. -/
def checkEmptyCard : Claim7 := { stood := { row := checkEmptyRow, standIns := [], harness := (true, "16ac9fd766a940493da2ea731629e89293bfdfaa8a4b0b6e877819092a4a148f"), looks := true }, kinds := [], alts := [], laidByText := true, laidKinds := [.data, .data, .data, .data, .sentinel, .sentinel, .data, .data, .data, .widerDeep, .data, .mapped, .pinned], laidTests := true, laidLooks := .later }
def CheckEmptyCardSaid : Prop := Claim7.holds Tryz.pinned (.plain (OpenSpec.ofChange checkEmptySpec)) checkEmptyCard

/-- THE TIED CARD OF 'bywashlaw17.CheckGraphs'. -/
def checkGraphsCard : Claim7 := { stood := { row := checkGraphsRow, standIns := [], harness := (true, "16ac9fd766a940493da2ea731629e89293bfdfaa8a4b0b6e877819092a4a148f"), looks := true }, kinds := [], alts := [], laidByText := true, laidKinds := [.data, .data, .data, .data, .sentinel, .sentinel, .data, .data, .data, .widerDeep, .data, .mapped, .pinned], laidTests := true, laidLooks := .later }
def CheckGraphsCardSaid : Prop := Claim7.holds Tryz.pinned (.plain (OpenSpec.ofChange checkGraphsSpec)) checkGraphsCard

/-- THE TIED CARD OF 'bywashlaw18.DepsRanges'. -/
def depsRangesCard : Claim7 := { stood := { row := depsRangesRow, standIns := [], harness := (true, "16ac9fd766a940493da2ea731629e89293bfdfaa8a4b0b6e877819092a4a148f"), looks := true }, kinds := [], alts := [], laidByText := true, laidKinds := [.data, .data, .data, .data, .sentinel, .sentinel, .data, .data, .data, .data, .mapped, .pinned], laidTests := true, laidLooks := .later }
def DepsRangesCardSaid : Prop := Claim7.holds Tryz.pinned (.plain (OpenSpec.ofChange depsRangesSpec)) depsRangesCard

/-- THE SECOND FORM's CARD OF 'bywashlaw17.CheckMany'. -/
def checkManyUptoCard : Claim7 := { stood := { row := checkManyUptoRow, standIns := [], harness := (true, "16ac9fd766a940493da2ea731629e89293bfdfaa8a4b0b6e877819092a4a148f"), looks := true }, kinds := [], alts := [], laidByText := true, laidKinds := [.data, .data, .data, .data, .sentinel, .sentinel, .data, .data, .data, .widerDeep, .data, .mapped, .pinned], laidTests := true, laidLooks := .later }
def CheckManyUptoCardSaid : Prop := Claim7.holds Tryz.pinned (.plain (OpenSpec.upto checkManySpec)) checkManyUptoCard

/-- THE SECOND FORM's CARD OF 'bywashlaw17.CheckTexts'. -/
def checkTextsUptoCard : Claim7 := { stood := { row := checkTextsUptoRow, standIns := [], harness := (true, "16ac9fd766a940493da2ea731629e89293bfdfaa8a4b0b6e877819092a4a148f"), looks := true }, kinds := [], alts := [], laidByText := true, laidKinds := [.data, .data, .data, .data, .sentinel, .sentinel, .data, .data, .data, .widerDeep, .data, .mapped, .pinned], laidTests := true, laidLooks := .later }
def CheckTextsUptoCardSaid : Prop := Claim7.holds Tryz.pinned (.plain (OpenSpec.upto checkTextsSpec)) checkTextsUptoCard

/-- THE SECOND FORM's CARD OF 'bywashlaw17.CheckOwn'. -/
def checkOwnUptoCard : Claim7 := { stood := { row := checkOwnUptoRow, standIns := [], harness := (true, "16ac9fd766a940493da2ea731629e89293bfdfaa8a4b0b6e877819092a4a148f"), looks := true }, kinds := [], alts := [], laidByText := true, laidKinds := [.data, .data, .data, .data, .sentinel, .sentinel, .data, .data, .data, .widerDeep, .data, .mapped, .pinned], laidTests := true, laidLooks := .later }
def CheckOwnUptoCardSaid : Prop := Claim7.holds Tryz.pinned (.plain (OpenSpec.upto checkOwnSpec)) checkOwnUptoCard

/-- THE SECOND FORM's CARD OF 'bywashlaw17.CheckEmpty'. -/
def checkEmptyUptoCard : Claim7 := { stood := { row := checkEmptyUptoRow, standIns := [], harness := (true, "16ac9fd766a940493da2ea731629e89293bfdfaa8a4b0b6e877819092a4a148f"), looks := true }, kinds := [], alts := [], laidByText := true, laidKinds := [.data, .data, .data, .data, .sentinel, .sentinel, .data, .data, .data, .widerDeep, .data, .mapped, .pinned], laidTests := true, laidLooks := .later }
def CheckEmptyUptoCardSaid : Prop := Claim7.holds Tryz.pinned (.plain (OpenSpec.upto checkEmptySpec)) checkEmptyUptoCard

/-- THE SECOND FORM's CARD OF 'bywashlaw17.CheckGraphs'. -/
def checkGraphsUptoCard : Claim7 := { stood := { row := checkGraphsUptoRow, standIns := [], harness := (true, "16ac9fd766a940493da2ea731629e89293bfdfaa8a4b0b6e877819092a4a148f"), looks := true }, kinds := [], alts := [], laidByText := true, laidKinds := [.data, .data, .data, .data, .sentinel, .sentinel, .data, .data, .data, .widerDeep, .data, .mapped, .pinned], laidTests := true, laidLooks := .later }
def CheckGraphsUptoCardSaid : Prop := Claim7.holds Tryz.pinned (.plain (OpenSpec.upto checkGraphsSpec)) checkGraphsUptoCard

/-- THE SECOND FORM's CARD OF 'bywashlaw18.DepsRanges'. -/
def depsRangesUptoCard : Claim7 := { stood := { row := depsRangesUptoRow, standIns := [], harness := (true, "16ac9fd766a940493da2ea731629e89293bfdfaa8a4b0b6e877819092a4a148f"), looks := true }, kinds := [], alts := [], laidByText := true, laidKinds := [.data, .data, .data, .data, .sentinel, .sentinel, .data, .data, .data, .data, .mapped, .pinned], laidTests := true, laidLooks := .later }
def DepsRangesUptoCardSaid : Prop := Claim7.holds Tryz.pinned (.plain (OpenSpec.upto depsRangesSpec)) depsRangesUptoCard
end Rows
end Go.Proofs.YtaobjdbdpdbekaaGreatDoor
