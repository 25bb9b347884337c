/- Bytes: a table is read. Conditions: none. -/
import Derived.Test.YthalcnhgnadmlaaDoorC26
set_option maxRecDepth 100000
namespace Go.Proofs.YthalcnhgnadmlaaDoor
open Go Go.Vm

def bx33 (cs rows : List D) : List (Nat × List Val) := [(2, [.own 2 [], .own 1 []]), (3, [.own 2 cs, .own 1 rows])]
def st33a (k : Nat) (acc : List D) (s : Store) (n : Int) : St := mkSB [(0, .ptr 0 0), (2, .lref 2 0), (3, .lref 3 0), (7, .d (int k)), (8, .d (int n))] (bx33 acc []) s
def st33b (cs : List D) (k : Nat) (rows : List D) (s : Store) (n : Int) : St := mkSB [(0, .ptr 0 0), (2, .lref 2 0), (3, .lref 3 0), (24, .d (int k)), (25, .d (int n))] (bx33 cs rows) s
def st33c (cs : List D) (k : Nat) (rows : List D) (i : Int) (kc : Int) (row : List D) (s : Store) (n : Int) : St := mkSB [(0, .ptr 0 0), (2, .lref 2 0), (3, .lref 3 0), (5, .own 3 row), (24, .d (int k)), (25, .d (int i)), (29, .d (int kc)), (30, .d (int n))] (bx33 cs rows) s

theorem tab_bad {s : RS} {r : Val} {st : Store} {w2 : List (List Va) × RS} (hw : rowsS (colsS s).1.length (colsS s).2 = w2) (hb : w2.2.bad = true ∨ chk ⟨(colsS s).1, w2.1⟩ ≠ 0) (h1 : r = .d (Tb.d ⟨[], []⟩)) (h2 : st = (RS.mk w2.2.b true).st) : r = .d (tabS s).1.d ∧ st = (tabS s).2.st := by
  unfold tabS
  rw [hw, if_pos hb]
  exact ⟨h1, h2⟩
theorem tab_ok {s : RS} {r : Val} {st : Store} {w2 : List (List Va) × RS} (hw : rowsS (colsS s).1.length (colsS s).2 = w2) (hb : ¬ (w2.2.bad = true ∨ chk ⟨(colsS s).1, w2.1⟩ ≠ 0)) (h1 : r = .d (Tb.d ⟨(colsS s).1, w2.1⟩)) (h2 : st = w2.2.st) : r = .d (tabS s).1.d ∧ st = (tabS s).2.st := by
  unfold tabS
  rw [hw, if_neg hb]
  exact ⟨h1, h2⟩

section
attribute [local irreducible] Int.decLt Int.decLe Int.instDecidableEq IntKind.wrap instDecidableEqList chk

set_option maxHeartbeats 3200000 in
theorem e33 (s : RS) (hs : s.b.length < SM) : VEv Tryd.prog gl 33 [.ptr 0 0] s.st (.d (tabS s).1.d) (tabS s).2.st := by
  have hs : s.b.length < 4294967296 := hs
  have h58 := e58 s 16
  have hle := countS_le s 16 (by omega)
  have hl1 := countS_len s 16
  obtain ⟨w1, hw1⟩ : ∃ w, w = colsS s := ⟨_, rfl⟩
  obtain ⟨w2, hw2⟩ : ∃ w, w = rowsS (colsS s).1.length (colsS s).2 := ⟨_, rfl⟩
  have hbad := @tab_bad s
  have hok := @tab_ok s
  rw [← hw1] at hw2
  have hbad := fun r st (hb : w2.2.bad = true ∨ chk ⟨w1.1, w2.1⟩ ≠ 0) => @tab_bad s r st w2 (by rw [← hw1, ← hw2]) (by rw [← hw1]; exact hb)
  have hok := fun r st (hb : ¬ (w2.2.bad = true ∨ chk ⟨w1.1, w2.1⟩ ≠ 0)) => @tab_ok s r st w2 (by rw [← hw1, ← hw2]) (by rw [← hw1]; exact hb)
  rw [← hw1] at hok
  unfold colsS at hw1
  unfold rowsS at hw2
  generalize countS s 16 = p at h58 hle hl1 hw1
  obtain ⟨k0, s1⟩ := p
  obtain ⟨k, rfl⟩ : ∃ k : Nat, k0 = k := ⟨k0.toNat, by dsimp only at hle; omega⟩
  dsimp only at h58 hle hw1 hl1
  rw [Int.toNat_natCast] at hw1
  have h58b := e58 w1.2 4096
  have hle2 := countS_le w1.2 4096 (by omega)
  have hl2 := countS_len w1.2 4096
  generalize countS w1.2 4096 = p2 at h58b hle2 hw2 hl2
  obtain ⟨k0, s2⟩ := p2
  obtain ⟨k2, rfl⟩ : ∃ k : Nat, k0 = k := ⟨k0.toNat, by dsimp only at hle2; omega⟩
  dsimp only at h58b hle2 hw2 hl2
  rw [Int.toNat_natCast] at hw2
  refine cp33.vev ?_
  conv => whnf
  repeat ((first | (apply guardI; · kernel_rfl) | (apply condT; · assumption) | (apply condF; · assumption) | (apply condNT; · assumption) | (apply condNF; · assumption)); conv => whnf)
  refine ⟨_, _, h58, ?_⟩
  conv => whnf
  repeat ((first | (apply guardI; · kernel_rfl) | (apply condT; · assumption) | (apply condF; · assumption) | (apply condNT; · assumption) | (apply condNF; · assumption)); conv => whnf)
  refine ⟨fun n st => ∃ (i : Nat) (acc : List Co) (s3 : RS), i ≤ k ∧ n = k - i ∧ acc.length = i ∧ colsL (k - i) acc s3 = w1 ∧ s3.b.length < 4294967296 ∧ (∀ c, c ∈ acc → c.name.length < 4294967296) ∧ st = st33a k (acc.map Co.d) s3.st i, k, ⟨0, [], s1, by omega, rfl, rfl, hw1.symm, by omega, by simp, by kernel_rfl⟩, ?_⟩
  intro _ _ H
  refine Exists.elim H (fun i H => Exists.elim H (fun acc H => Exists.elim H (fun s3 H => ?_)))
  have hi := H.1
  have hn := H.2.1
  have hacc := H.2.2.1
  have hL := H.2.2.2.1
  have hB := H.2.2.2.2.1
  have hC := H.2.2.2.2.2.1
  have hst := H.2.2.2.2.2.2
  clear H
  subst hn
  subst hst
  conv => whnf
  repeat ((first | (apply guardI; · kernel_rfl) | (apply condT; · assumption) | (apply condF; · assumption) | (apply condNT; · assumption) | (apply condNF; · assumption)); conv => whnf)
  by_cases hik : i < k
  · have hd : decide ((i : Int) < (k : Int)) = true := by simpa using hik
    have hstep : colsL (k - i) acc s3 = colsL (k - (i + 1)) (acc ++ [⟨(textS s3).1, (intS (textS s3).2).1⟩]) (intS (textS s3).2).2 := by
      rw [show k - i = (k - (i + 1)) + 1 by omega]; rfl
    rw [hL] at hstep
    have h31 := e31 s3
    have h30 := e30s (textS s3).2
    have hcl := col_len s3
    generalize intS (textS s3).2 = q2 at h30 hstep hcl
    generalize textS s3 = q at h31 h30 hstep hcl
    conv => whnf
    repeat ((first | (apply guardI; · kernel_rfl) | (apply condT; · assumption) | (apply condF; · assumption) | (apply condNT; · assumption) | (apply condNF; · assumption)); conv => whnf)
    refine ⟨_, _, h31, ?_⟩
    conv => whnf
    repeat ((first | (apply guardI; · kernel_rfl) | (apply condT; · assumption) | (apply condF; · assumption) | (apply condNT; · assumption) | (apply condNF; · assumption)); conv => whnf)
    refine ⟨_, _, h30, ?_⟩
    conv => whnf
    repeat ((first | (apply condT; · assumption) | (apply condF; · assumption) | (apply condNT; · assumption) | (apply condNF; · assumption) | (refine guardI (by simp; omega) ?_) | (refine guardI (by kernel_rfl) ?_)); conv => whnf)
    refine ⟨k - (i + 1), by omega, i + 1, acc ++ [⟨q.1, q2.1⟩], q2.2, by omega, rfl, by simp [hacc], hstep.symm, by omega, ?_, ?_⟩
    · intro c hc
      rcases List.mem_append.1 hc with hc | hc
      · exact hC c hc
      · rw [List.mem_singleton] at hc
        subst hc
        show q.1.length < _
        omega
    · rw [← sD_snoc]
      exact congrArg (st33a k _ _) (wrapB hik (by show _ < 4611686018427387904; omega))
  · have hd : decide ((i : Int) < (k : Int)) = false := by simpa using hik
    have hki : k - i = 0 := by omega
    rw [hki] at hL
    subst hL
    have hl2 : s2.b.length ≤ s3.b.length := hl2
    have hkc : i ≤ 16 := by omega
    clear hki h58 hw1 hl1
    conv => whnf
    repeat ((first | (apply guardI; · kernel_rfl) | (apply condT; · assumption) | (apply condF; · assumption) | (apply condNT; · assumption) | (apply condNF; · assumption)); conv => whnf)
    refine ⟨_, _, h58b, ?_⟩
    conv => whnf
    repeat ((first | (apply guardI; · kernel_rfl) | (apply condT; · assumption) | (apply condF; · assumption) | (apply condNT; · assumption) | (apply condNF; · assumption)); conv => whnf)
    refine ⟨fun n st => ∃ (j : Nat) (rows : List (List Va)) (s4 : RS), j ≤ k2 ∧ n = k2 - j ∧ rows.length = j ∧ rowsL acc.length (k2 - j) rows s4 = w2 ∧ s4.b.length < 4294967296 ∧ (∀ r, r ∈ rows → RowOk r) ∧ st = st33b (acc.map Co.d) k2 (rows.map rD) s4.st j, k2, ⟨0, [], s2, by omega, rfl, rfl, hw2.symm, by omega, by simp, by kernel_rfl⟩, ?_⟩
    intro _ _ H
    refine Exists.elim H (fun j H => Exists.elim H (fun rows H => Exists.elim H (fun s4 H => ?_)))
    have hj := H.1
    have hn := H.2.1
    have hrows := H.2.2.1
    have hL := H.2.2.2.1
    have hB4 := H.2.2.2.2.1
    have hR4 := H.2.2.2.2.2.1
    have hst := H.2.2.2.2.2.2
    clear H
    subst hn
    subst hst
    conv => whnf
    repeat ((first | (apply guardI; · kernel_rfl) | (apply condT; · assumption) | (apply condF; · assumption) | (apply condNT; · assumption) | (apply condNF; · assumption)); conv => whnf)
    by_cases hjk : j < k2
    · have hd2 : decide ((j : Int) < (k2 : Int)) = true := by simpa using hjk
      have hstep : rowsL acc.length (k2 - j) rows s4 = if (rowL acc.length [] s4).2.bad = true then (rows, (rowL acc.length [] s4).2) else rowsL acc.length (k2 - (j + 1)) (rows ++ [(rowL acc.length [] s4).1]) (rowL acc.length [] s4).2 := by
        rw [show k2 - j = (k2 - (j + 1)) + 1 by omega]; rfl
      rw [hL] at hstep
      obtain ⟨w3, hw3⟩ : ∃ w, w = rowL acc.length [] s4 := ⟨_, rfl⟩
      rw [← hw3] at hstep
      conv => whnf
      repeat ((first | (apply guardI; · kernel_rfl) | (apply condT; · assumption) | (apply condF; · assumption) | (apply condNT; · assumption) | (apply condNF; · assumption)); conv => whnf)
      refine ⟨fun n st => ∃ (m : Nat) (row : List Va) (s5 : RS), m ≤ acc.length ∧ n = acc.length - m ∧ row.length = m ∧ rowL (acc.length - m) row s5 = w3 ∧ s5.b.length < 4294967296 ∧ (∀ v, v ∈ row → v.t.length < BIG) ∧ st = st33c (acc.map Co.d) k2 (rows.map rD) j (acc.map Co.d).length (row.map Va.d) s5.st m, acc.length, ⟨0, [], s4, by omega, rfl, rfl, hw3.symm, hB4, by simp, by kernel_rfl⟩, ?_⟩
      intro _ _ H
      refine Exists.elim H (fun m H => Exists.elim H (fun row H => Exists.elim H (fun s5 H => ?_)))
      have hm := H.1
      have hn := H.2.1
      have hrow := H.2.2.1
      have hL5 := H.2.2.2.1
      have hB5 := H.2.2.2.2.1
      have hR5 := H.2.2.2.2.2.1
      have hst := H.2.2.2.2.2.2
      clear H
      subst hn
      subst hst
      conv => whnf
      repeat ((first | (apply guardI; · kernel_rfl) | (apply condT; · assumption) | (apply condF; · assumption) | (apply condNT; · assumption) | (apply condNF; · assumption)); conv => whnf)
      by_cases hmk : m < acc.length
      · have hd3 : decide ((m : Int) < ((acc.map Co.d).length : Int)) = true := by simpa using hmk
        have hstep5 : rowL (acc.length - m) row s5 = rowL (acc.length - (m + 1)) (row ++ [(valS s5).1]) (valS s5).2 := by
          rw [show acc.length - m = (acc.length - (m + 1)) + 1 by omega]; rfl
        rw [hL5] at hstep5
        have h59 := e59 s5 (by show _ < 4611686018427387904; omega)
        have hvl := valS_len s5
        generalize valS s5 = q at h59 hvl hstep5
        conv => whnf
        repeat ((first | (apply guardI; · kernel_rfl) | (apply condT; · assumption) | (apply condF; · assumption) | (apply condNT; · assumption) | (apply condNF; · assumption)); conv => whnf)
        refine ⟨_, _, h59, ?_⟩
        conv => whnf
        repeat ((first | (apply condT; · assumption) | (apply condF; · assumption) | (apply condNT; · assumption) | (apply condNF; · assumption) | (refine guardI (by simp; omega) ?_) | (refine guardI (by kernel_rfl) ?_)); conv => whnf)
        refine ⟨acc.length - (m + 1), by omega, m + 1, row ++ [q.1], q.2, by omega, rfl, by simp [hrow], hstep5.symm, by omega, ?_, ?_⟩
        · intro v hv
          rcases List.mem_append.1 hv with hv | hv
          · exact hR5 v hv
          · rw [List.mem_singleton] at hv
            subst hv
            show q.1.t.length < 4611686018427387904
            omega
        · rw [← rD_snoc]
          exact congrArg (st33c _ _ _ _ _ _ _) (wrapB hmk (by show _ < 4611686018427387904; omega))
      · have hd3 : decide ((m : Int) < ((acc.map Co.d).length : Int)) = false := by simpa using hmk
        have hmz : acc.length - m = 0 := by omega
        rw [hmz] at hL5
        subst hL5
        have hstep : w2 = if s5.bad = true then (rows, s5) else rowsL acc.length (k2 - (j + 1)) (rows ++ [row]) s5 := hstep
        have hrok : RowOk row := ⟨by rw [hrow]; show _ < 4611686018427387904; omega, hR5⟩
        clear hmz hw3
        by_cases hb5 : s5.bad = true
        · rw [if_pos hb5] at hstep
          subst hstep
          conv => whnf
          repeat ((first | (apply guardI; · kernel_rfl) | (apply condT; · assumption) | (apply condF; · assumption) | (apply condNT; · assumption) | (apply condNF; · assumption)); conv => whnf)
          exact hbad _ _ (Or.inl hb5) (by kernel_rfl) (by kernel_rfl)
        · have hb5' : s5.bad = false := by cases h : s5.bad; rfl; exact absurd h hb5
          rw [if_neg hb5] at hstep
          conv => whnf
          repeat ((first | (apply condT; · assumption) | (apply condF; · assumption) | (apply condNT; · assumption) | (apply condNF; · assumption) | (refine guardI (by simp; omega) ?_) | (refine guardI (by kernel_rfl) ?_)); conv => whnf)
          refine ⟨k2 - (j + 1), by omega, j + 1, rows ++ [row], s5, by omega, rfl, by simp [hrows], hstep.symm, hB5, ?_, ?_⟩
          · intro r hr
            rcases List.mem_append.1 hr with hr | hr
            · exact hR4 r hr
            · rw [List.mem_singleton] at hr
              subst hr
              exact hrok
          · rw [← rsD_snoc]
            exact congrArg (st33b _ _ _ _) (wrapB hjk (by show _ < 4611686018427387904; omega))
    · have hd2 : decide ((j : Int) < (k2 : Int)) = false := by simpa using hjk
      have hz : k2 - j = 0 := by omega
      rw [hz] at hL
      subst hL
      by_cases hb4 : s4.bad = true
      · conv => whnf
        repeat ((first | (apply guardI; · kernel_rfl) | (apply condT; · assumption) | (apply condF; · assumption) | (apply condNT; · assumption) | (apply condNF; · assumption)); conv => whnf)
        exact hbad _ _ (Or.inl hb4) (by kernel_rfl) (by kernel_rfl)
      · have hb4' : s4.bad = false := by cases h : s4.bad; rfl; exact absurd h hb4
        have hck : TbOk ⟨acc, rows⟩ := ⟨⟨by show acc.length < 4611686018427387904; omega, fun c hc => Nat.lt_trans (hC c hc) (by decide)⟩, by show rows.length < 4611686018427387904; omega, hR4⟩
        have h27 := (chk_ok hck).2
        conv => whnf
        repeat ((first | (apply guardI; · kernel_rfl) | (apply condT; · assumption) | (apply condF; · assumption) | (apply condNT; · assumption) | (apply condNF; · assumption)); conv => whnf)
        refine ⟨_, _, h27, ?_⟩
        conv => whnf
        repeat ((first | (apply guardI; · kernel_rfl) | (apply condT; · assumption) | (apply condF; · assumption) | (apply condNT; · assumption) | (apply condNF; · assumption)); conv => whnf)
        by_cases hc0 : chk ⟨acc, rows⟩ = 0
        · have hd4 : (!decide (chk ⟨acc, rows⟩ = 0)) = false := by simp [hc0]
          conv => whnf
          repeat ((first | (apply guardI; · kernel_rfl) | (apply condT; · assumption) | (apply condF; · assumption) | (apply condNT; · assumption) | (apply condNF; · assumption)); conv => whnf)
          exact hok _ _ (fun h => h.elim (fun h => hb4 h) (fun h => h hc0)) (by kernel_rfl) (by kernel_rfl)
        · have hd4 : (!decide (chk ⟨acc, rows⟩ = 0)) = true := by simp [hc0]
          conv => whnf
          repeat ((first | (apply guardI; · kernel_rfl) | (apply condT; · assumption) | (apply condF; · assumption) | (apply condNT; · assumption) | (apply condNF; · assumption)); conv => whnf)
          exact hbad _ _ (Or.inr hc0) (by kernel_rfl) (by kernel_rfl)
end
end Go.Proofs.YthalcnhgnadmlaaDoor
