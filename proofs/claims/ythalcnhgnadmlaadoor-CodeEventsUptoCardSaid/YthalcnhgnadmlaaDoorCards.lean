/-
  DERIVED. GIVEN WITH THE SEED: THE CARDS: each row of YthalcnhgnadmlaaDoorRows.lean that lists a variable, with what it lists TIED to the program's text (the seventh form; the later family's looks); each row that meets fmt, with fmt's text TOLD by the authors' own Lean function (tested against real Go, not proved from fmt's source: count such statements apart). THE CARD IS WHAT COUNTS. Prove the row's statement (the work); the ties are given (YthalcnhgnadmlaaDoorTie.lean); close each card by the builder's one call (the guide's Derived/Test/ToyasCard.lean, 'card_holds'). Laid BY PROGRAM, IN A SANDBOX (cutbox-door.mjs). By AI agents, Wed Nov 11 2026. No macro, syntax, notation, axiom, sorry.
-/
import Derived.Test.YthalcnhgnadmlaaDoorRows
import GoSem.ClaimSeven
namespace Go.Proofs.YthalcnhgnadmlaaDoor
namespace Rows

/-- THE TIED CARD OF 'bywashlaw21.CodeEvents'. -/
def codeEventsCard : Claim7 := { stood := { row := codeEventsRow, standIns := [], harness := (true, "f03107c874e53eb581428ff21ad60759c35d9e32fa86ce25dc5163c53b6876e1"), looks := false }, kinds := [], alts := [], laidByText := true, laidKinds := [.data], laidTests := true, laidLooks := .later }
def CodeEventsCardSaid : Prop := Claim7.holds Tryd.pinned (.plain (OpenSpec.ofChange codeEventsSpec)) codeEventsCard

/-- THE TIED CARD OF 'bywashlaw21.CodeReads'. -/
def codeReadsCard : Claim7 := { stood := { row := codeReadsRow, standIns := [], harness := (true, "f03107c874e53eb581428ff21ad60759c35d9e32fa86ce25dc5163c53b6876e1"), looks := false }, kinds := [], alts := [], laidByText := true, laidKinds := [.data], laidTests := true, laidLooks := .later }
def CodeReadsCardSaid : Prop := Claim7.holds Tryd.pinned (.plain (OpenSpec.ofChange codeReadsSpec)) codeReadsCard

/-- THE SECOND FORM's CARD OF 'bywashlaw21.CodeEvents'. -/
def codeEventsUptoCard : Claim7 := { stood := { row := codeEventsUptoRow, standIns := [], harness := (true, "f03107c874e53eb581428ff21ad60759c35d9e32fa86ce25dc5163c53b6876e1"), looks := false }, kinds := [], alts := [], laidByText := true, laidKinds := [.data], laidTests := true, laidLooks := .later }
def CodeEventsUptoCardSaid : Prop := Claim7.holds Tryd.pinned (.plain (OpenSpec.upto codeEventsSpec)) codeEventsUptoCard

/-- THE SECOND FORM's CARD OF 'bywashlaw21.CodeReads'. -/
def codeReadsUptoCard : Claim7 := { stood := { row := codeReadsUptoRow, standIns := [], harness := (true, "f03107c874e53eb581428ff21ad60759c35d9e32fa86ce25dc5163c53b6876e1"), looks := false }, kinds := [], alts := [], laidByText := true, laidKinds := [.data], laidTests := true, laidLooks := .later }
def CodeReadsUptoCardSaid : Prop := Claim7.holds Tryd.pinned (.plain (OpenSpec.upto codeReadsSpec)) codeReadsUptoCard
end Rows
end Go.Proofs.YthalcnhgnadmlaaDoor
