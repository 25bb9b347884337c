/- Bytes: the end of reading. Conditions: none. -/
import Derived.Test.YthalcnhgnadmlaaDoorC21
set_option maxRecDepth 100000
namespace Go.Proofs.YthalcnhgnadmlaaDoor
open Go Go.Vm
section
attribute [local irreducible] Int.decLt Int.decLe Int.instDecidableEq IntKind.wrap instDecidableEqList

theorem e36 (s : RS) : VEv Tryd.prog gl 36 [.ptr 0 0] s.st (.d (.bool (!s.bad && decide (((s.b.map byteD).length : Int) = 0)))) s.st := by
  cases s with
  | mk b bad =>
  cases bad with
  | true =>
    refine cp36.vev ?_
    conv => whnf
    repeat ((first | (apply guardI; · kernel_rfl) | (apply condT; · assumption) | (apply condF; · assumption) | (apply condNT; · assumption) | (apply condNF; · assumption)); conv => whnf)
    exact ⟨by kernel_rfl, by kernel_rfl⟩
  | false =>
    refine cp36.vev ?_
    conv => whnf
    repeat ((first | (apply guardI; · kernel_rfl) | (apply condT; · assumption) | (apply condF; · assumption) | (apply condNT; · assumption) | (apply condNF; · assumption)); conv => whnf)
    exact ⟨by kernel_rfl, by kernel_rfl⟩
end
end Go.Proofs.YthalcnhgnadmlaaDoor
