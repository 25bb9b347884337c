/- Bytes: the plain law of reading partitions. Conditions: none. -/
import Derived.Test.YthalcnhgnadmlaaDoorC24
set_option maxRecDepth 100000
namespace Go.Proofs.YthalcnhgnadmlaaDoor
open Go Go.Vm

section
attribute [local irreducible] Int.decLt Int.decLe Int.instDecidableEq IntKind.wrap instDecidableEqList
theorem e34 (s : RS) : VEv Tryd.prog gl 34 [.agg [.ptr 0 0]] s.st (.d (psD (partsS s).1)) (partsS s).2.st := by
  have h60 := e60 s
  generalize partsS s = p at h60 ⊢
  refine cp34.vev ?_
  conv => whnf
  repeat ((first | (apply guardI; · kernel_rfl) | (apply condT; · assumption) | (apply condF; · assumption) | (apply condNT; · assumption) | (apply condNF; · assumption)); conv => whnf)
  refine ⟨_, _, h60, ?_⟩
  conv => whnf
  repeat ((first | (apply guardI; · kernel_rfl) | (apply condT; · assumption) | (apply condF; · assumption) | (apply condNT; · assumption) | (apply condNF; · assumption)); conv => whnf)
  exact ⟨by kernel_rfl, by kernel_rfl⟩
end

def PtOk (p : Pt) : Prop := p.a.length < BND ∧ I64 p.i
theorem partsL_ok : ∀ (l acc : List Pt) (r : Bs), (∀ p, p ∈ l → PtOk p) → partsL l.length acc ⟨l.flatMap encPt ++ r, false⟩ = (acc ++ l, ⟨r, false⟩)
  | [], acc, r, _ => by simp [partsL]
  | p :: l, acc, r, h => by
    have hp := h p (by simp)
    have := partsL_ok l (acc ++ [p]) r (fun q hq => h q (by simp [hq]))
    rw [List.length_cons, partsL, List.flatMap_cons, List.append_assoc, partS_ok p hp.1 hp.2, if_neg (by simp), this, List.append_assoc]
    rfl
theorem partsL_inv : ∀ (n : Nat) (acc : List Pt) (s : RS), (partsL n acc s).2.bad = false → s.bad = false ∧ ∃ l : List Pt, l.length = n ∧ (partsL n acc s).1 = acc ++ l ∧ s.b = l.flatMap encPt ++ (partsL n acc s).2.b ∧ ∀ p, p ∈ l → I64 p.i
  | 0, acc, s, h => ⟨h, [], rfl, by simp [partsL], by simp [partsL], by simp⟩
  | n + 1, acc, s, h => by
    rw [partsL] at h ⊢
    by_cases hb : (partS s).2.bad = true
    · rw [if_pos hb] at h; rw [hb] at h; simp at h
    · rw [if_neg hb] at h ⊢
      obtain ⟨_, l, h1, h2, h3, h4⟩ := partsL_inv n _ _ h
      have h5 := partS_inv (s := s) (by cases h : (partS s).2.bad; rfl; exact absurd h hb)
      refine ⟨h5.1, (partS s).1 :: l, by simp [h1], by rw [h2]; simp, ?_, ?_⟩
      · rw [List.flatMap_cons, List.append_assoc, ← h3]; exact h5.2.1
      · intro p hp
        rcases List.mem_cons.1 hp with rfl | hp
        · exact h5.2.2
        · exact h4 p hp

theorem partsS_ok (l : List Pt) (hl : l.length ≤ 16384) (h : ∀ p, p ∈ l → PtOk p) (r : Bs) : partsS ⟨encPs l ++ r, false⟩ = (l, ⟨r, false⟩) := by
  unfold partsS encPs
  rw [List.append_assoc, countS_ok _ _ (by omega) (by omega) (by unfold I64; omega)]
  dsimp only
  rw [Int.toNat_natCast, partsL_ok l [] r h]
  rfl
theorem partsS_inv {s : RS} (h : (partsS s).2.bad = false) : s.bad = false ∧ s.b = encPs (partsS s).1 ++ (partsS s).2.b ∧ (partsS s).1.length ≤ 16384 ∧ ∀ p, p ∈ (partsS s).1 → I64 p.i := by
  unfold partsS at h ⊢
  obtain ⟨h1, l, h2, h3, h4, h5⟩ := partsL_inv _ _ _ h
  have h6 := countS_inv h1
  rw [List.nil_append] at h3
  rw [h3]
  refine ⟨h6.1, ?_, by omega, h5⟩
  rw [h6.2.1, h4, encPs, List.append_assoc]
  congr 2
  omega
end Go.Proofs.YthalcnhgnadmlaaDoor
