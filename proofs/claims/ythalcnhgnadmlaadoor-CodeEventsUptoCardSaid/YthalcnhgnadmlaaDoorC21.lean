/- Bytes: partitions, yes and no, the end. Conditions: none. -/
import Derived.Test.YthalcnhgnadmlaaDoorC20
set_option maxRecDepth 100000
namespace Go.Proofs.YthalcnhgnadmlaaDoor
open Go Go.Vm

def partS (s : RS) : Pt × RS := (⟨(textS s).1, (intS (textS s).2).1⟩, (intS (textS s).2).2)
theorem partS_ok (p : Pt) (ha : p.a.length < BND) (hi : I64 p.i) (r : Bs) : partS ⟨encPt p ++ r, false⟩ = (p, ⟨r, false⟩) := by
  unfold partS encPt
  rw [List.append_assoc, textS_ok _ ha, intS_ok _ hi]
theorem partS_inv {s : RS} (h : (partS s).2.bad = false) : s.bad = false ∧ s.b = encPt (partS s).1 ++ (partS s).2.b ∧ I64 (partS s).1.i := by
  unfold partS at h ⊢
  have h2 := intS_inv h
  have h1 := textS_inv h2.1
  refine ⟨h1.1, ?_, h2.2.2⟩
  rw [h1.2.1, encPt, List.append_assoc, ← h2.2.1]

section
attribute [local irreducible] Int.decLt Int.decLe Int.instDecidableEq IntKind.wrap instDecidableEqList

theorem e32 (s : RS) : VEv Tryd.prog gl 32 [.agg [.ptr 0 0]] s.st (.d (partS s).1.d) (partS s).2.st := by
  have h31 := e31 s
  have h30 := e30s (textS s).2
  unfold partS
  generalize intS (textS s).2 = q at h30 ⊢
  generalize textS s = p at h31 h30 ⊢
  refine cp32.vev ?_
  conv => whnf
  repeat ((first | (apply guardI; · kernel_rfl) | (apply condT; · assumption) | (apply condF; · assumption) | (apply condNT; · assumption) | (apply condNF; · assumption)); conv => whnf)
  refine ⟨_, _, h31, ?_⟩
  conv => whnf
  repeat ((first | (apply guardI; · kernel_rfl) | (apply condT; · assumption) | (apply condF; · assumption) | (apply condNT; · assumption) | (apply condNF; · assumption)); conv => whnf)
  refine ⟨_, _, h30, ?_⟩
  conv => whnf
  repeat ((first | (apply guardI; · kernel_rfl) | (apply condT; · assumption) | (apply condF; · assumption) | (apply condNT; · assumption) | (apply condNF; · assumption)); conv => whnf)
  exact ⟨by kernel_rfl, by kernel_rfl⟩

theorem e35 (s : RS) : VEv Tryd.prog gl 35 [.agg [.ptr 0 0]] s.st (.d (.bool (decide ((countS s 1).1 = 1)))) (countS s 1).2.st := by
  have h58 := e58 s 1
  generalize countS s 1 = p at h58 ⊢
  refine cp35.vev ?_
  conv => whnf
  repeat ((first | (apply guardI; · kernel_rfl) | (apply condT; · assumption) | (apply condF; · assumption) | (apply condNT; · assumption) | (apply condNF; · assumption)); conv => whnf)
  refine ⟨_, _, h58, ?_⟩
  conv => whnf
  repeat ((first | (apply guardI; · kernel_rfl) | (apply condT; · assumption) | (apply condF; · assumption) | (apply condNT; · assumption) | (apply condNF; · assumption)); conv => whnf)
  exact ⟨by kernel_rfl, by kernel_rfl⟩

end
end Go.Proofs.YthalcnhgnadmlaaDoor
