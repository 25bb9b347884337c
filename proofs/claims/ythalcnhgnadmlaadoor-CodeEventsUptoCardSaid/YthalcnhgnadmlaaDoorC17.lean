/- Bytes: texts, counts are read. Conditions: none. -/
import Derived.Test.YthalcnhgnadmlaaDoorC16
set_option maxRecDepth 100000
namespace Go.Proofs.YthalcnhgnadmlaaDoor
open Go Go.Vm

def textS (s : RS) : Bs × RS := takeS (intS s).2 (intS s).1
def countS (s : RS) (m : Int) : Int × RS := if (intS s).1 < 0 ∨ m < (intS s).1 then (0, ⟨(intS s).2.b, true⟩) else intS s

theorem unbytes_map : ∀ l : Bs, unbytes (l.map byteD) = some l
  | [] => rfl
  | c :: t => by
    show (match unbytes (t.map byteD) with | some s => some (UInt8.ofNat (Int.toNat (c.toNat : Int)) :: s) | none => none) = _
    rw [unbytes_map t]
    simp

section
attribute [local irreducible] Int.decLt Int.decLe Int.instDecidableEq IntKind.wrap instDecidableEqList

theorem e72 (s : RS) : VEv Tryd.prog gl 72 [.ptr 0 0] s.st (.d (.bool s.bad)) s.st := by
  refine cp72.vev ?_
  conv => whnf
  repeat ((first | (apply guardI; · kernel_rfl) | (apply condT; · assumption) | (apply condF; · assumption) | (apply condNT; · assumption) | (apply condNF; · assumption)); conv => whnf)
  exact ⟨by kernel_rfl, by kernel_rfl⟩

theorem e58 (s : RS) (m : Int) : VEv Tryd.prog gl 58 [.ptr 0 0, .d (int m)] s.st (.d (int (countS s m).1)) (countS s m).2.st := by
  have h30 := e30s s
  unfold countS
  generalize intS s = p at h30 ⊢
  cases p with
  | mk n s' =>
  refine cp58.vev ?_
  conv => whnf
  repeat ((first | (apply guardI; · kernel_rfl) | (apply condT; · assumption) | (apply condF; · assumption) | (apply condNT; · assumption) | (apply condNF; · assumption)); conv => whnf)
  refine ⟨_, _, h30, ?_⟩
  conv => whnf
  repeat ((first | (apply guardI; · kernel_rfl) | (apply condT; · assumption) | (apply condF; · assumption) | (apply condNT; · assumption) | (apply condNF; · assumption)); conv => whnf)
  by_cases h1 : n < 0
  · have h2 : decide (n < 0) = true := by simpa using h1
    conv => whnf
    repeat ((first | (apply guardI; · kernel_rfl) | (apply condT; · assumption) | (apply condF; · assumption) | (apply condNT; · assumption) | (apply condNF; · assumption)); conv => whnf)
    rw [if_pos (Or.inl h1)]
    exact ⟨by kernel_rfl, by kernel_rfl⟩
  · have h2 : decide (n < 0) = false := by simpa using h1
    by_cases h3 : m < n
    · have h4 : decide (m < n) = true := by simpa using h3
      conv => whnf
      repeat ((first | (apply guardI; · kernel_rfl) | (apply condT; · assumption) | (apply condF; · assumption) | (apply condNT; · assumption) | (apply condNF; · assumption)); conv => whnf)
      rw [if_pos (Or.inr h3)]
      exact ⟨by kernel_rfl, by kernel_rfl⟩
    · have h4 : decide (m < n) = false := by simpa using h3
      conv => whnf
      repeat ((first | (apply guardI; · kernel_rfl) | (apply condT; · assumption) | (apply condF; · assumption) | (apply condNT; · assumption) | (apply condNF; · assumption)); conv => whnf)
      rw [if_neg (by omega)]
      exact ⟨by kernel_rfl, by kernel_rfl⟩

theorem e31 (s : RS) : VEv Tryd.prog gl 31 [.ptr 0 0] s.st (.d (.str (textS s).1)) (textS s).2.st := by
  have h30 := e30s s
  have h56 := e56 (intS s).2 (intS s).1
  unfold textS
  generalize takeS (intS s).2 (intS s).1 = q at h56 ⊢
  generalize intS s = p at h30 h56
  refine cp31.vev ?_
  conv => whnf
  repeat ((first | (apply guardI; · kernel_rfl) | (apply condT; · assumption) | (apply condF; · assumption) | (apply condNT; · assumption) | (apply condNF; · assumption)); conv => whnf)
  refine ⟨_, _, h30, ?_⟩
  conv => whnf
  repeat ((first | (apply guardI; · kernel_rfl) | (apply condT; · assumption) | (apply condF; · assumption) | (apply condNT; · assumption) | (apply condNF; · assumption)); conv => whnf)
  refine ⟨_, _, h56, ?_⟩
  conv => whnf
  repeat ((first | (apply guardI; · kernel_rfl) | (apply condT; · assumption) | (apply condF; · assumption) | (apply condNT; · assumption) | (apply condNF; · assumption)); conv => whnf)
  have hu : unbytes (q.1.map byteD) = some q.1 := unbytes_map q.1
  simp only [hu]
  conv => whnf
  repeat ((first | (apply guardI; · kernel_rfl) | (apply condT; · assumption) | (apply condF; · assumption) | (apply condNT; · assumption) | (apply condNF; · assumption)); conv => whnf)
  exact ⟨by kernel_rfl, by kernel_rfl⟩
end
end Go.Proofs.YthalcnhgnadmlaaDoor
