/- Bytes: the plain laws of reading numbers, texts, counts. Conditions: none. -/
import Derived.Test.YthalcnhgnadmlaaDoorC17
set_option maxRecDepth 100000
namespace Go.Proofs.YthalcnhgnadmlaaDoor
open Go Go.Vm

theorem takeS_ok (l r : Bs) : takeS ⟨l ++ r, false⟩ (l.length : Int) = (l, ⟨r, false⟩) := by
  unfold takeS
  rw [if_neg (by simp; omega)]
  simp
theorem takeS_inv {s : RS} {n : Int} (h : (takeS s n).2.bad = false) : s.bad = false ∧ 0 ≤ n ∧ ((takeS s n).1.length : Int) = n ∧ s.b = (takeS s n).1 ++ (takeS s n).2.b := by
  unfold takeS at h ⊢
  by_cases hc : s.bad = true ∨ n < 0 ∨ (s.b.length : Int) < n
  · rw [if_pos hc] at h; simp at h
  · rw [if_neg hc]
    refine ⟨by cases hb : s.bad <;> simp [hb] at hc ⊢, by omega, by simp; omega, by simp⟩

theorem intS_ok (n : Int) (hn : I64 n) (r : Bs) : intS ⟨encI n ++ r, false⟩ = (n, ⟨r, false⟩) := by
  unfold intS
  rw [if_neg (by simp), decI_encI n hn r]
theorem intS_inv {s : RS} (h : (intS s).2.bad = false) : s.bad = false ∧ s.b = encI (intS s).1 ++ (intS s).2.b ∧ I64 (intS s).1 := by
  unfold intS at h ⊢
  by_cases hb : s.bad = true
  · rw [if_pos hb] at h; simp [hb] at h
  · rw [if_neg hb] at h ⊢
    cases hd : decI s.b with
    | none => rw [hd] at h; simp at h
    | some p =>
      cases p with
      | mk n r =>
      have := encI_decI hd
      refine ⟨by simpa using hb, this.1, this.2⟩

theorem textS_ok (t : Bs) (ht : t.length < BND) (r : Bs) : textS ⟨encTx t ++ r, false⟩ = (t, ⟨r, false⟩) := by
  have hB : t.length < 70368744177664 := ht
  unfold textS encTx
  rw [List.append_assoc, intS_ok _ (by unfold I64; omega)]
  exact takeS_ok t r
theorem textS_inv {s : RS} (h : (textS s).2.bad = false) : s.bad = false ∧ s.b = encTx (textS s).1 ++ (textS s).2.b ∧ ((textS s).1.length : Int) < 9223372036854775808 := by
  unfold textS at h ⊢
  have h1 := takeS_inv h
  have h2 := intS_inv h1.1
  refine ⟨h2.1, ?_, ?_⟩
  · rw [h2.2.1, encTx, h1.2.2.1, List.append_assoc, ← h1.2.2.2]
  · rw [h1.2.2.1]; exact h2.2.2.2

theorem countS_ok (n m : Int) (h0 : 0 ≤ n) (h1 : n ≤ m) (hn : I64 n) (r : Bs) : countS ⟨encI n ++ r, false⟩ m = (n, ⟨r, false⟩) := by
  unfold countS
  rw [intS_ok n hn, if_neg (by simp; omega)]
theorem countS_inv {s : RS} {m : Int} (h : (countS s m).2.bad = false) : s.bad = false ∧ s.b = encI (countS s m).1 ++ (countS s m).2.b ∧ 0 ≤ (countS s m).1 ∧ (countS s m).1 ≤ m ∧ I64 (countS s m).1 := by
  unfold countS at h ⊢
  by_cases hc : (intS s).1 < 0 ∨ m < (intS s).1
  · rw [if_pos hc] at h; simp at h
  · rw [if_neg hc] at h ⊢
    have := intS_inv h
    exact ⟨this.1, this.2.1, by omega, by omega, this.2.2⟩
/-- A count is never below 0, nor above its most, whatever was read. -/
theorem countS_le (s : RS) (m : Int) (hm : 0 ≤ m) : 0 ≤ (countS s m).1 ∧ (countS s m).1 ≤ m := by
  unfold countS
  by_cases hc : (intS s).1 < 0 ∨ m < (intS s).1
  · rw [if_pos hc]; exact ⟨by simp, hm⟩
  · rw [if_neg hc]; omega
end Go.Proofs.YthalcnhgnadmlaaDoor
