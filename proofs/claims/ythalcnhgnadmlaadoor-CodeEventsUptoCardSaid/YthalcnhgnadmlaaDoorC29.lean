/- Bytes: the plain law of reading tables. Conditions: none. -/
import Derived.Test.YthalcnhgnadmlaaDoorC28
set_option maxRecDepth 100000
namespace Go.Proofs.YthalcnhgnadmlaaDoor
open Go Go.Vm

theorem intS_i64 (s : RS) : I64 (intS s).1 := by
  unfold intS
  split
  · unfold I64; simp
  · cases hd : decI s.b with
    | none => unfold I64; simp
    | some p => cases p with | mk n r => exact (encI_decI hd).2
theorem valR_i64 (s : RS) : I64 (valR s).1.k ∧ I64 (valR s).1.n := by
  have z : I64 0 := by unfold I64; omega
  have o : I64 1 := by unfold I64; omega
  have w : I64 2 := by unfold I64; omega
  unfold valR
  split
  · exact ⟨z, z⟩
  split
  · exact ⟨o, intS_i64 _⟩
  split
  · exact ⟨w, z⟩
  · exact ⟨intS_i64 _, z⟩
theorem valS_i64 (s : RS) : I64 (valS s).1.k ∧ I64 (valS s).1.n := by
  have z : I64 0 := by unfold I64; omega
  unfold valS
  split
  · exact ⟨z, z⟩
  · exact valR_i64 s
theorem not_bad {b : Bool} (h : ¬ b = true) : b = false := by cases b; rfl; exact absurd rfl h

theorem rightB_cases {v : Va} (h : rightB v = true) : v.k = 0 ∧ v.n = 0 ∧ v.t = [] ∨ v.k = 1 ∧ v.t = [] ∨ v.k = 2 ∧ v.n = 0 := by
  unfold rightB at h
  by_cases h0 : v.k = 0
  · rw [if_pos h0] at h
    simp [eqS] at h
    exact Or.inl ⟨h0, h.1, h.2⟩
  · rw [if_neg h0] at h
    by_cases h1 : v.k = 1
    · rw [if_pos h1] at h
      simp [eqS] at h
      exact Or.inr (Or.inl ⟨h1, h⟩)
    · rw [if_neg h1] at h
      by_cases h2 : v.k = 2
      · rw [if_pos h2] at h
        simp at h
        exact Or.inr (Or.inr ⟨h2, h.1⟩)
      · rw [if_neg h2] at h
        simp at h

theorem valS_ok (v : Va) (hr : rightB v = true) (hn : I64 v.n) (ht : v.t.length < BND) (r : Bs) : valS ⟨encVa v ++ r, false⟩ = (v, ⟨r, false⟩) := by
  have h := valR_ok v (by
    rcases rightB_cases hr with ⟨a, b, c⟩ | ⟨a, b⟩ | ⟨a, b⟩
    · exact Or.inl ⟨a, b, c⟩
    · exact Or.inr (Or.inl ⟨a, hn, b⟩)
    · exact Or.inr (Or.inr ⟨a, b, ht⟩)) r
  unfold valS
  rw [h, if_neg (by simp [hr])]

theorem colsL_ok : ∀ (l acc : List Co) (r : Bs), (∀ c, c ∈ l → c.name.length < BND ∧ I64 c.ty) → colsL l.length acc ⟨l.flatMap encCo ++ r, false⟩ = (acc ++ l, ⟨r, false⟩)
  | [], acc, r, _ => by simp [colsL]
  | c :: l, acc, r, h => by
    have hc := h c (by simp)
    rw [List.length_cons, colsL, List.flatMap_cons, List.append_assoc]
    have e : encCo c ++ (l.flatMap encCo ++ r) = encTx c.name ++ (encI c.ty ++ (l.flatMap encCo ++ r)) := by unfold encCo; rw [List.append_assoc]
    rw [e, textS_ok _ hc.1, intS_ok _ hc.2, colsL_ok l _ r (fun q hq => h q (by simp [hq])), List.append_assoc]
    rfl
theorem colsL_inv : ∀ (n : Nat) (acc : List Co) (s : RS), (colsL n acc s).2.bad = false → s.bad = false ∧ ∃ l : List Co, l.length = n ∧ (colsL n acc s).1 = acc ++ l ∧ s.b = l.flatMap encCo ++ (colsL n acc s).2.b ∧ ∀ c, c ∈ l → I64 c.ty ∧ c.name.length ≤ s.b.length
  | 0, acc, s, h => ⟨h, [], rfl, by simp [colsL], by simp [colsL], by simp⟩
  | n + 1, acc, s, h => by
    rw [colsL] at h ⊢
    obtain ⟨h0, l, h1, h2, h3, h4⟩ := colsL_inv n _ _ h
    have h6 := intS_inv h0
    have h5 := textS_inv h6.1
    have hl := col_len s
    refine ⟨h5.1, ⟨(textS s).1, (intS (textS s).2).1⟩ :: l, by simp [h1], by rw [h2]; simp, ?_, ?_⟩
    · rw [List.flatMap_cons, List.append_assoc, ← h3]
      unfold encCo
      rw [List.append_assoc, ← h6.2.1]
      exact h5.2.1
    · intro c hc
      rcases List.mem_cons.1 hc with rfl | hc
      · exact ⟨h6.2.2, hl.1⟩
      · exact ⟨(h4 c hc).1, Nat.le_trans (h4 c hc).2 hl.2⟩

theorem rowL_ok : ∀ (l acc : List Va) (r : Bs), (∀ v, v ∈ l → rightB v = true ∧ I64 v.n ∧ v.t.length < BND) → rowL l.length acc ⟨encRow l ++ r, false⟩ = (acc ++ l, ⟨r, false⟩)
  | [], acc, r, _ => by simp [rowL, encRow]
  | c :: l, acc, r, h => by
    have hc := h c (by simp)
    have e : encRow (c :: l) ++ r = encVa c ++ (encRow l ++ r) := by unfold encRow; rw [List.flatMap_cons, List.append_assoc]
    rw [List.length_cons, rowL, e, valS_ok c hc.1 hc.2.1 hc.2.2, rowL_ok l _ r (fun q hq => h q (by simp [hq])), List.append_assoc]
    rfl
theorem rowL_inv : ∀ (n : Nat) (acc : List Va) (s : RS), (rowL n acc s).2.bad = false → s.bad = false ∧ ∃ l : List Va, l.length = n ∧ (rowL n acc s).1 = acc ++ l ∧ s.b = encRow l ++ (rowL n acc s).2.b ∧ ∀ v, v ∈ l → I64 v.k ∧ I64 v.n ∧ v.t.length ≤ s.b.length
  | 0, acc, s, h => ⟨h, [], rfl, by simp [rowL], by simp [rowL, encRow], by simp⟩
  | n + 1, acc, s, h => by
    rw [rowL] at h ⊢
    obtain ⟨h0, l, h1, h2, h3, h4⟩ := rowL_inv n _ _ h
    have h5 := valS_inv h0
    have h6 := valS_i64 s
    have hl := valS_len s
    refine ⟨h5.1, (valS s).1 :: l, by simp [h1], by rw [h2]; simp, ?_, ?_⟩
    · unfold encRow at h3 ⊢
      rw [List.flatMap_cons, List.append_assoc, ← h3]
      exact h5.2.1
    · intro c hc
      rcases List.mem_cons.1 hc with rfl | hc
      · exact ⟨h6.1, h6.2, hl.1⟩
      · exact ⟨(h4 c hc).1, (h4 c hc).2.1, Nat.le_trans (h4 c hc).2.2 hl.2⟩

theorem rowL_len : ∀ (n : Nat) (acc : List Va) (s : RS), (rowL n acc s).2.b.length ≤ s.b.length
  | 0, _, _ => Nat.le_refl _
  | n + 1, acc, s => by
    rw [rowL]
    exact Nat.le_trans (rowL_len n _ _) (valS_len s).2

theorem rowsL_ok (k : Nat) : ∀ (l acc : List (List Va)) (r : Bs), (∀ q, q ∈ l → q.length = k ∧ ∀ v, v ∈ q → rightB v = true ∧ I64 v.n ∧ v.t.length < BND) → rowsL k l.length acc ⟨l.flatMap encRow ++ r, false⟩ = (acc ++ l, ⟨r, false⟩)
  | [], acc, r, _ => by simp [rowsL]
  | c :: l, acc, r, h => by
    have hc := h c (by simp)
    have hk := hc.1
    have e := rowL_ok c [] (l.flatMap encRow ++ r) hc.2
    rw [hk] at e
    rw [List.length_cons, rowsL, List.flatMap_cons, List.append_assoc, e, if_neg (by simp), rowsL_ok k l _ r (fun q hq => h q (by simp [hq])), List.append_assoc]
    rfl
theorem rowsL_inv (k : Nat) : ∀ (n : Nat) (acc : List (List Va)) (s : RS), (rowsL k n acc s).2.bad = false → s.bad = false ∧ ∃ l : List (List Va), l.length = n ∧ (rowsL k n acc s).1 = acc ++ l ∧ s.b = l.flatMap encRow ++ (rowsL k n acc s).2.b ∧ ∀ q, q ∈ l → q.length = k ∧ ∀ v, v ∈ q → I64 v.k ∧ I64 v.n ∧ v.t.length ≤ s.b.length
  | 0, acc, s, h => ⟨h, [], rfl, by simp [rowsL], by simp [rowsL], by simp⟩
  | n + 1, acc, s, h => by
    rw [rowsL] at h ⊢
    by_cases hb : (rowL k [] s).2.bad = true
    · rw [if_pos hb] at h; rw [hb] at h; simp at h
    · rw [if_neg hb] at h ⊢
      obtain ⟨_, l, h1, h2, h3, h4⟩ := rowsL_inv k n _ _ h
      obtain ⟨g0, l', g1, g2, g3, g4⟩ := rowL_inv k [] s (not_bad hb)
      rw [List.nil_append] at g2
      have hl := rowL_len k [] s
      refine ⟨g0, (rowL k [] s).1 :: l, by simp [h1], by rw [h2]; simp, ?_, ?_⟩
      · rw [List.flatMap_cons, List.append_assoc, ← h3, g2]
        exact g3
      · intro q hq
        rcases List.mem_cons.1 hq with rfl | hq
        · rw [g2]; exact ⟨g1, g4⟩
        · exact ⟨(h4 q hq).1, fun v hv => ⟨((h4 q hq).2 v hv).1, ((h4 q hq).2 v hv).2.1, Nat.le_trans ((h4 q hq).2 v hv).2.2 hl⟩⟩

/-- Right tables are read as they were written. -/
theorem tabS_ok (t : Tb) (hs : t.s.length ≤ 16) (hr : t.r.length ≤ 4096) (hc : chk t = 0) (hsn : ∀ c, c ∈ t.s → c.name.length < BND ∧ I64 c.ty) (hf : ∀ q, q ∈ t.r → FitP t.s q) (hv : ∀ q, q ∈ t.r → ∀ v, v ∈ q → I64 v.n ∧ v.t.length < BND) (r : Bs) :
    tabS ⟨encTb t.s t.r ++ r, false⟩ = (t, ⟨r, false⟩) := by
  have e : encTb t.s t.r ++ r = encI t.s.length ++ (t.s.flatMap encCo ++ (encI t.r.length ++ (t.r.flatMap encRow ++ r))) := by
    unfold encTb; simp only [List.append_assoc]
  have h1 : colsS ⟨encI t.s.length ++ (t.s.flatMap encCo ++ (encI t.r.length ++ (t.r.flatMap encRow ++ r))), false⟩ = (t.s, ⟨encI t.r.length ++ (t.r.flatMap encRow ++ r), false⟩) := by
    unfold colsS
    rw [countS_ok _ _ (by omega) (by omega) (by unfold I64; omega)]
    dsimp only
    rw [Int.toNat_natCast, colsL_ok _ _ _ hsn]
    rfl
  have h2 : rowsS t.s.length ⟨encI t.r.length ++ (t.r.flatMap encRow ++ r), false⟩ = (t.r, ⟨r, false⟩) := by
    unfold rowsS
    rw [countS_ok _ _ (by omega) (by omega) (by unfold I64; omega)]
    dsimp only
    rw [Int.toNat_natCast, rowsL_ok _ _ _ _ (fun q hq => ⟨(hf q hq).1, fun v hvq => ⟨(hf q hq).2 v hvq, hv q hq v hvq⟩⟩)]
    rfl
  unfold tabS
  rw [e, h1]
  dsimp only
  rw [h2]
  dsimp only
  rw [if_neg (by simp [hc])]
theorem tabS_inv {s : RS} (h : (tabS s).2.bad = false) : s.bad = false ∧ s.b = encTb (tabS s).1.s (tabS s).1.r ++ (tabS s).2.b ∧ chk (tabS s).1 = 0 ∧ (tabS s).1.s.length ≤ 16 ∧ (tabS s).1.r.length ≤ 4096 ∧
    (∀ c, c ∈ (tabS s).1.s → I64 c.ty ∧ c.name.length ≤ s.b.length) ∧ ∀ q, q ∈ (tabS s).1.r → q.length ≤ 16 ∧ ∀ v, v ∈ q → I64 v.k ∧ I64 v.n ∧ v.t.length ≤ s.b.length := by
  unfold tabS at h ⊢
  by_cases hc : (rowsS (colsS s).1.length (colsS s).2).2.bad = true ∨ chk ⟨(colsS s).1, (rowsS (colsS s).1.length (colsS s).2).1⟩ ≠ 0
  · rw [if_pos hc] at h; simp at h
  · rw [if_neg hc] at h ⊢
    have hc0 : chk ⟨(colsS s).1, (rowsS (colsS s).1.length (colsS s).2).1⟩ = 0 := by
      by_cases h0 : chk ⟨(colsS s).1, (rowsS (colsS s).1.length (colsS s).2).1⟩ = 0
      · exact h0
      · exact absurd (Or.inr h0) hc
    clear hc
    dsimp only at h ⊢
    have hr : rowsS (colsS s).1.length (colsS s).2 = rowsL (colsS s).1.length (countS (colsS s).2 4096).1.toNat [] (countS (colsS s).2 4096).2 := rfl
    rw [hr] at h hc0 ⊢
    obtain ⟨h0, l, h1, h2, h3, h4⟩ := rowsL_inv _ _ _ _ h
    have h5 := countS_inv h0
    have hl5 := countS_len (colsS s).2 4096
    have hcs : colsS s = colsL (countS s 16).1.toNat [] (countS s 16).2 := rfl
    have h6 := h5.1
    rw [hcs] at h6
    obtain ⟨g0, l', g1, g2, g3, g4⟩ := colsL_inv _ _ _ h6
    have g5 := countS_inv g0
    have hl := countS_len s 16
    rw [← hcs] at g2 g3
    rw [List.nil_append] at h2 g2
    have hlen : (colsS s).2.b.length ≤ s.b.length := by
      have := congrArg List.length g3
      rw [List.length_append] at this
      omega
    refine ⟨g5.1, ?_, hc0, by rw [g2]; omega, by rw [h2]; omega, ?_, ?_⟩
    · rw [h2, g2]
      unfold encTb
      have e1 : (l'.length : Int) = (countS s 16).1 := by omega
      have e2 : (l.length : Int) = (countS (colsS s).2 4096).1 := by omega
      rw [e1, e2]
      simp only [List.append_assoc]
      rw [g2] at h3
      rw [← h3, ← h5.2.1, ← g3]
      exact g5.2.1
    · rw [g2]
      intro c hcm
      exact ⟨(g4 c hcm).1, by have := (g4 c hcm).2; omega⟩
    · rw [h2]
      intro q hq
      refine ⟨by rw [(h4 q hq).1, g2]; omega, fun v hv => ?_⟩
      have := (h4 q hq).2 v hv
      exact ⟨this.1, this.2.1, by omega⟩

end Go.Proofs.YthalcnhgnadmlaaDoor
