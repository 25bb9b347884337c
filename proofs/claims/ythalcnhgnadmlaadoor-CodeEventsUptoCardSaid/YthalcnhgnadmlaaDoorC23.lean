/- Bytes: a reader is made. Conditions: none. -/
import Derived.Test.YthalcnhgnadmlaaDoorC22
set_option maxRecDepth 100000
namespace Go.Proofs.YthalcnhgnadmlaaDoor
open Go Go.Vm
section
attribute [local irreducible] Int.decLt Int.decLe Int.instDecidableEq IntKind.wrap instDecidableEqList

theorem e29 (b : Bs) (hb : b.length < SM) : VEv Tryd.prog gl 29 [.d (bs b)] [] (.ptr 0 0) (rdr b false) := by
  have h46 := e46 b hb
  refine cp29.vev ?_
  conv => whnf
  repeat ((first | (apply guardI; · kernel_rfl) | (apply condT; · assumption) | (apply condF; · assumption) | (apply condNT; · assumption) | (apply condNF; · assumption)); conv => whnf)
  refine ⟨_, _, h46, ?_⟩
  conv => whnf
  repeat ((first | (apply guardI; · kernel_rfl) | (apply condT; · assumption) | (apply condF; · assumption) | (apply condNT; · assumption) | (apply condNF; · assumption)); conv => whnf)
  exact ⟨by kernel_rfl, by kernel_rfl⟩
end
end Go.Proofs.YthalcnhgnadmlaaDoor
