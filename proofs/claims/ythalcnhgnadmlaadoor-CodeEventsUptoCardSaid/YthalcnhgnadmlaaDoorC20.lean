/- Bytes: the plain law of reading values. Conditions: none. -/
import Derived.Test.YthalcnhgnadmlaaDoorC19
set_option maxRecDepth 100000
namespace Go.Proofs.YthalcnhgnadmlaaDoor
open Go Go.Vm

theorem valR_inv {s : RS} (h : (valR s).2.bad = false) : s.bad = false ∧ s.b = encVa (valR s).1 ++ (valR s).2.b := by
  unfold valR at h ⊢
  by_cases k0 : (intS s).1 = 0
  · rw [if_pos k0] at h ⊢
    have h1 := intS_inv h
    refine ⟨h1.1, ?_⟩
    rw [k0] at h1
    simpa [encVa] using h1.2.1
  · rw [if_neg k0] at h ⊢
    by_cases k1 : (intS s).1 = 1
    · rw [if_pos k1] at h ⊢
      have h2 := intS_inv h
      have h1 := intS_inv h2.1
      refine ⟨h1.1, ?_⟩
      rw [k1] at h1
      rw [h1.2.1, h2.2.1]
      simp [encVa]
    · rw [if_neg k1] at h ⊢
      by_cases k2 : (intS s).1 = 2
      · rw [if_pos k2] at h ⊢
        have h2 := textS_inv h
        have h1 := intS_inv h2.1
        refine ⟨h1.1, ?_⟩
        rw [k2] at h1
        rw [h1.2.1]
        simp [encVa]
        rw [← h2.2.1]
      · rw [if_neg k2] at h
        simp at h

theorem valS_inv {s : RS} (h : (valS s).2.bad = false) : s.bad = false ∧ s.b = encVa (valS s).1 ++ (valS s).2.b ∧ rightB (valS s).1 = true := by
  unfold valS at h ⊢
  by_cases hc : (valR s).2.bad = true ∨ rightB (valR s).1 = false
  · rw [if_pos hc] at h; simp at h
  · rw [if_neg hc] at h ⊢
    have h1 := valR_inv h
    refine ⟨h1.1, h1.2, ?_⟩
    cases hr : rightB (valR s).1
    · exact absurd (Or.inr hr) hc
    · rfl

theorem valR_ok (v : Va) (hk : v.k = 0 ∧ v.n = 0 ∧ v.t = [] ∨ v.k = 1 ∧ I64 v.n ∧ v.t = [] ∨ v.k = 2 ∧ v.n = 0 ∧ v.t.length < BND) (r : Bs) : valR ⟨encVa v ++ r, false⟩ = (v, ⟨r, false⟩) := by
  cases v with
  | mk k n t =>
  dsimp only at hk
  unfold valR
  rcases hk with ⟨rfl, rfl, rfl⟩ | ⟨rfl, hn, rfl⟩ | ⟨rfl, rfl, ht⟩
  · have : encVa ⟨0, 0, []⟩ = encI 0 := by simp [encVa]
    rw [this, intS_ok 0 (by unfold I64; omega)]
    rfl
  · have : encVa ⟨1, n, []⟩ ++ r = encI 1 ++ (encI n ++ r) := by simp [encVa]
    rw [this, intS_ok 1 (by unfold I64; omega)]
    show (if (1 : Int) = 0 then _ else if (1 : Int) = 1 then _ else _) = _
    rw [if_neg (by omega), if_pos rfl, intS_ok n hn]
  · have : encVa ⟨2, 0, t⟩ ++ r = encI 2 ++ (encTx t ++ r) := by simp [encVa]
    rw [this, intS_ok 2 (by unfold I64; omega)]
    show (if (2 : Int) = 0 then _ else if (2 : Int) = 1 then _ else if (2 : Int) = 2 then _ else _) = _
    rw [if_neg (by omega), if_neg (by omega), if_pos rfl, textS_ok t ht]

end Go.Proofs.YthalcnhgnadmlaaDoor
