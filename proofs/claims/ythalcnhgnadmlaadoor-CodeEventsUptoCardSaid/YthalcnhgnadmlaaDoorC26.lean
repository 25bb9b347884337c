/- Bytes: tables, before they are read. Conditions: none. -/
import Derived.Test.YthalcnhgnadmlaaDoorC25
set_option maxRecDepth 100000
namespace Go.Proofs.YthalcnhgnadmlaaDoor
open Go Go.Vm

def colsL : Nat → List Co → RS → List Co × RS
  | 0, acc, s => (acc, s)
  | n + 1, acc, s => colsL n (acc ++ [⟨(textS s).1, (intS (textS s).2).1⟩]) (intS (textS s).2).2
noncomputable def rowL : Nat → List Va → RS → List Va × RS
  | 0, acc, s => (acc, s)
  | n + 1, acc, s => rowL n (acc ++ [(valS s).1]) (valS s).2
noncomputable def rowsL (k : Nat) : Nat → List (List Va) → RS → List (List Va) × RS
  | 0, acc, s => (acc, s)
  | n + 1, acc, s => if (rowL k [] s).2.bad = true then (acc, (rowL k [] s).2) else rowsL k n (acc ++ [(rowL k [] s).1]) (rowL k [] s).2
def colsS (s : RS) : List Co × RS := colsL (countS s 16).1.toNat [] (countS s 16).2
noncomputable def rowsS (k : Nat) (s : RS) : List (List Va) × RS := rowsL k (countS s 4096).1.toNat [] (countS s 4096).2
noncomputable def tabS (s : RS) : Tb × RS :=
  if (rowsS (colsS s).1.length (colsS s).2).2.bad = true ∨ chk ⟨(colsS s).1, (rowsS (colsS s).1.length (colsS s).2).1⟩ ≠ 0 then (⟨[], []⟩, ⟨(rowsS (colsS s).1.length (colsS s).2).2.b, true⟩)
  else (⟨(colsS s).1, (rowsS (colsS s).1.length (colsS s).2).1⟩, (rowsS (colsS s).1.length (colsS s).2).2)

/-- What is read is no longer than what there was. -/
theorem countS_len (s : RS) (m : Int) : (countS s m).2.b.length ≤ s.b.length := by
  have := intS_le s
  unfold countS
  split
  · exact this
  · exact this
theorem valR_len (s : RS) : (valR s).1.t.length ≤ s.b.length ∧ (valR s).2.b.length ≤ s.b.length := by
  have h1 := intS_le s
  have h2 := intS_le (intS s).2
  have h3 := textS_le (intS s).2
  unfold valR
  split
  · simp; omega
  split
  · simp; omega
  split
  · simp; omega
  · simp; omega
theorem valS_len (s : RS) : (valS s).1.t.length ≤ s.b.length ∧ (valS s).2.b.length ≤ s.b.length := by
  have := valR_len s
  unfold valS
  split
  · simp; omega
  · exact this
theorem col_len (s : RS) : (textS s).1.length ≤ s.b.length ∧ (intS (textS s).2).2.b.length ≤ s.b.length := by
  have h1 := textS_le s
  have h2 := intS_le (textS s).2
  omega

theorem sD_snoc (l : List Co) (p : Co) : l.map Co.d ++ [p.d] = (l ++ [p]).map Co.d := by rw [List.map_append]; rfl
theorem rD_snoc (l : List Va) (p : Va) : l.map Va.d ++ [p.d] = (l ++ [p]).map Va.d := by rw [List.map_append]; rfl
theorem rsD_snoc (l : List (List Va)) (p : List Va) : l.map rD ++ [rD p] = (l ++ [p]).map rD := by rw [List.map_append]; rfl

end Go.Proofs.YthalcnhgnadmlaaDoor
