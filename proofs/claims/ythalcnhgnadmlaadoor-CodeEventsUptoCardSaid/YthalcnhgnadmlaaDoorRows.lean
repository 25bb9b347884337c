/-
  NARROWER THAN 'FOR EVERY INPUT', by the rows' own cells (each row's printed sentence says how): CodeEvents: laid · CodeReads: laid.
  DERIVED. THE GIVEN ROWS OF THIS SEAT. 2 by the template 'for every input the law returns true; each argument reads behind the call as it read before'; 0 by the template 'total and deterministic' (their statements: YthalcnhgnadmlaaDoorTotals.lean).
  GIVEN WITH THE SEED: the statements are not yours to turn. If you find one false, say at which input.
  Laid BY PROGRAM, IN A SANDBOX (cutbox-rows.mjs): the forced cells as the released guide's own fill.sh prints them over the translation 658de0c753ef08d6… (all of the seat's roots in one cut). By AI agents, Wed Nov 11 2026. No macro, syntax, notation, axiom, sorry.
-/
import Derived.Test.YthalcnhgnadmlaaDoorChecked
import GoSem.Claim
import GoSem.ClaimJoined
import GoSem.ClaimMapViews
import Derived.JoinedTies
import Derived.KernelRfl
namespace Go.Proofs.YthalcnhgnadmlaaDoor
/- THE CELL 'sum', in the pinned program and in every row, IS THE sha256 OF THE DUMP (.gsa) THAT YthalcnhgnadmlaaDoorProg.lean LOADS. Nothing in Lean hashes anything: it is a label: what it is worth is what the hold of that sum in a sandbox is worth. -/
noncomputable def Tryd.pinned : Pinned := { name := "ythalcnhgnadmlaadoor", sum := "658de0c753ef08d63b5e75e3e0926424b7e559ccc7bff9c7ac0c4a4275038af7", checked := Tryd.checked }
namespace Rows
def none {H : Type} : Left H := { results := [], args := [] }

/- WHAT THE LISTED PACKAGE-LEVEL VARIABLES READ AS WHEN THE CALL BEGINS. Each datum BY PROGRAM (the guide's laid-datum.mjs) off the statement by which the dump's own 'gosem.cut.vars' lays the variable. In a bare row this is a premise. The card (YthalcnhgnadmlaaDoorCards.lean) ties it to the program's text. -/
def laid_bywash_code_has {H : Type} : DataW H := .agg [.lit (.int .i64 0), .lit (.int .i64 1), .lit (.int .i64 6), .lit (.int .i64 8), .lit (.int .i64 57), .lit (.int .i64 48), .lit (.int .i64 64), .lit (.int .i64 2), .lit (.int .i64 68), .lit (.int .i64 232), .lit (.int .i64 64), .lit (.int .i64 32), .lit (.int .i64 0), .lit (.int .i64 0)]

/-- 'bywashlaw21.CodeEvents': WHATEVER THE INPUT: true; the input reads as it did. -/
def codeEventsSpec : ChangeSpec := { name := "codeEvents", fn := fun _ => fun
  | [d] => { results := [.lit (.bool true)], args := [d] }
  | _ => none }
def codeEventsRow : OpenClaim := { program := "ythalcnhgnadmlaadoor", sum := "658de0c753ef08d63b5e75e3e0926424b7e559ccc7bff9c7ac0c4a4275038af7", func := "bywash/bywashlaw21.CodeEvents", spec := "codeEvents", inPlace := ["internal/bytealg.abigen_runtime_cmpstring"], unfollowed := true, recurses := true, named := ["bywash/code.has"], apart := false, laid := [("bywash/code.has", laid_bywash_code_has)] }
def CodeEventsSaid : Prop := codeEventsRow.holds Tryd.pinned (OpenSpec.ofChange codeEventsSpec)

/-- ITS FALSE NEIGHBOUR: 'it returns false'. Refute it at one input. -/
def codeEventsWrong : ChangeSpec := { name := "codeEvents", fn := fun _ => fun
  | [d] => { results := [.lit (.bool false)], args := [d] }
  | _ => none }
def CodeEventsWrongFalsely : Prop := codeEventsRow.holds Tryd.pinned (OpenSpec.ofChange codeEventsWrong)

/-- 'bywashlaw21.CodeReads': WHATEVER THE INPUT: true; the input reads as it did. -/
def codeReadsSpec : ChangeSpec := { name := "codeReads", fn := fun _ => fun
  | [d] => { results := [.lit (.bool true)], args := [d] }
  | _ => none }
def codeReadsRow : OpenClaim := { program := "ythalcnhgnadmlaadoor", sum := "658de0c753ef08d63b5e75e3e0926424b7e559ccc7bff9c7ac0c4a4275038af7", func := "bywash/bywashlaw21.CodeReads", spec := "codeReads", inPlace := ["internal/bytealg.abigen_runtime_cmpstring"], unfollowed := true, recurses := true, named := ["bywash/code.has"], apart := false, laid := [("bywash/code.has", laid_bywash_code_has)] }
def CodeReadsSaid : Prop := codeReadsRow.holds Tryd.pinned (OpenSpec.ofChange codeReadsSpec)

/-- ITS FALSE NEIGHBOUR: 'it returns false'. Refute it at one input. -/
def codeReadsWrong : ChangeSpec := { name := "codeReads", fn := fun _ => fun
  | [d] => { results := [.lit (.bool false)], args := [d] }
  | _ => none }
def CodeReadsWrongFalsely : Prop := codeReadsRow.holds Tryd.pinned (OpenSpec.ofChange codeReadsWrong)

/- THE SECOND FORM. 'bulk': how many values and letters a reading holds, each counted each time it is reached (what is shared counts as often as it is met; a slice's spare places count too). A statement '..UptoSaid' is the law's where the arguments, and the package variables that the reading takes, are together of bulk at most 1048576: NARROWER than '..Said'. Prove '..Said' where nothing that the law and all that it calls make is longer than what came in: it says more and counts as full. Else prove '..UptoSaid'. A law counts once. -/
mutual
def uptoBulk {H : Type} : DataW H → Nat
  | .lit (.string bytes) => bytes.length + 1
  | .lit _ => 1
  | .nil => 1
  | .ptr d => uptoBulk d + 1
  | .slice elems spare => uptoBulkAll elems + uptoBulkAll spare + 1
  | .agg parts => uptoBulkAll parts + 1
  | .iface _ d => uptoBulk d + 1
  | .map entries => uptoBulkEntries entries + 1
  | .held _ => 1
def uptoBulkAll {H : Type} : List (DataW H) → Nat
  | [] => 0
  | d :: r => uptoBulk d + uptoBulkAll r
def uptoBulkEntries {H : Type} : List (Lit × DataW H) → Nat
  | [] => 0
  | x :: r => uptoBulkEntry x + uptoBulkEntries r
def uptoBulkEntry {H : Type} : Lit × DataW H → Nat
  | (.string bytes, d) => bytes.length + uptoBulk d + 1
  | (_, d) => uptoBulk d + 1
 end
def uptoSmall : (H : Type) → List (DataW H) → Bool := fun _ ds => decide (uptoBulkAll ds ≤ 1048576)
def OpenSpec.upto (s : _root_.Go.ChangeSpec) : _root_.Go.OpenSpec := { _root_.Go.OpenSpec.ofChange s with cond := some uptoSmall }

/-- 'bywashlaw21.CodeEvents', WHERE WHAT IT READS IS OF BULK AT MOST 1048576: true; the input reads as it did. -/
def codeEventsUptoRow : OpenClaim := { program := "ythalcnhgnadmlaadoor", sum := "658de0c753ef08d63b5e75e3e0926424b7e559ccc7bff9c7ac0c4a4275038af7", func := "bywash/bywashlaw21.CodeEvents", spec := "codeEvents", inPlace := ["internal/bytealg.abigen_runtime_cmpstring"], unfollowed := true, recurses := true, named := ["bywash/code.has"], apart := false, laid := [("bywash/code.has", laid_bywash_code_has)], narrowed := true }
def CodeEventsUptoSaid : Prop := codeEventsUptoRow.holds Tryd.pinned (OpenSpec.upto codeEventsSpec)

/-- 'bywashlaw21.CodeReads', WHERE WHAT IT READS IS OF BULK AT MOST 1048576: true; the input reads as it did. -/
def codeReadsUptoRow : OpenClaim := { program := "ythalcnhgnadmlaadoor", sum := "658de0c753ef08d63b5e75e3e0926424b7e559ccc7bff9c7ac0c4a4275038af7", func := "bywash/bywashlaw21.CodeReads", spec := "codeReads", inPlace := ["internal/bytealg.abigen_runtime_cmpstring"], unfollowed := true, recurses := true, named := ["bywash/code.has"], apart := false, laid := [("bywash/code.has", laid_bywash_code_has)], narrowed := true }
def CodeReadsUptoSaid : Prop := codeReadsUptoRow.holds Tryd.pinned (OpenSpec.upto codeReadsSpec)

end Rows
end Go.Proofs.YthalcnhgnadmlaaDoor
