/- Bytes: a value is read. Conditions: none. -/
import Derived.Test.YthalcnhgnadmlaaDoorC18
set_option maxRecDepth 100000
namespace Go.Proofs.YthalcnhgnadmlaaDoor
open Go Go.Vm

theorem takeS_le (s : RS) (n : Int) : (takeS s n).1.length ≤ s.b.length ∧ (takeS s n).2.b.length ≤ s.b.length := by
  unfold takeS
  split
  · simp
  · simp; omega
theorem decR_le (b : Bs) : (decR b).length ≤ b.length := by
  cases b with
  | nil => simp [decR]
  | cons c t => rw [decR_cons]; split; simp; split; simp; simp; omega
theorem intS_le (s : RS) : (intS s).2.b.length ≤ s.b.length := by
  unfold intS
  split
  · exact Nat.le_refl _
  · cases hd : decI s.b with
    | none => exact decR_le _
    | some p =>
      cases p with
      | mk n r =>
      have := congrArg List.length (encI_decI hd).1
      rw [List.length_append] at this
      show r.length ≤ _
      omega
theorem textS_le (s : RS) : (textS s).1.length ≤ s.b.length ∧ (textS s).2.b.length ≤ s.b.length := by
  have h1 := takeS_le (intS s).2 (intS s).1
  have h2 := intS_le s
  unfold textS
  omega

/-- What is read, before it is looked at. -/
def valR (s : RS) : Va × RS :=
  if (intS s).1 = 0 then (⟨0, 0, []⟩, (intS s).2) else
  if (intS s).1 = 1 then (⟨1, (intS (intS s).2).1, []⟩, (intS (intS s).2).2) else
  if (intS s).1 = 2 then (⟨2, 0, (textS (intS s).2).1⟩, (textS (intS s).2).2) else
  (⟨(intS s).1, 0, []⟩, ⟨(intS s).2.b, true⟩)
noncomputable def valS (s : RS) : Va × RS := if (valR s).2.bad = true ∨ rightB (valR s).1 = false then (⟨0, 0, []⟩, ⟨(valR s).2.b, true⟩) else valR s

section
attribute [local irreducible] Int.decLt Int.decLe Int.instDecidableEq IntKind.wrap instDecidableEqList rightB

theorem finS {r : Val} {st : Store} {s : RS} {w : Va × RS} (h : valS s = w) (h1 : r = .d w.1.d) (h2 : st = w.2.st) : r = .d (valS s).1.d ∧ st = (valS s).2.st := by subst h; exact ⟨h1, h2⟩

set_option maxHeartbeats 3200000 in
theorem e59 (s : RS) (hs : s.b.length < BIG) : VEv Tryd.prog gl 59 [.ptr 0 0] s.st (.d (valS s).1.d) (valS s).2.st := by
  have h30 := e30s s
  have hi := intS_le s
  have ht := textS_le (intS s).2
  have h30' := e30s (intS s).2
  have h31 := e31 (intS s).2
  have hR : valR s = valR s := rfl
  conv at hR => rhs; unfold valR
  generalize textS (intS s).2 = q at h31 ht hR
  generalize intS (intS s).2 = p2 at h30' hR
  generalize intS s = p at h30 h30' h31 ht hi hR
  cases p with
  | mk k s1 =>
  cases p2 with
  | mk n s2 =>
  cases q with
  | mk t s3 =>
  dsimp only at h30 h30' h31 ht hi hR
  by_cases k0 : k = 0
  · have hd : decide (k = 0) = true := by simpa using k0
    rw [if_pos k0] at hR
    subst k0
    refine cp59.vev ?_
    conv => whnf
    repeat ((first | (apply guardI; · kernel_rfl) | (apply condT; · assumption) | (apply condF; · assumption) | (apply condNT; · assumption) | (apply condNF; · assumption)); conv => whnf)
    refine ⟨_, _, h30, ?_⟩
    conv => whnf
    repeat ((first | (apply guardI; · kernel_rfl) | (apply condT; · assumption) | (apply condF; · assumption) | (apply condNT; · assumption) | (apply condNF; · assumption)); conv => whnf)
    by_cases hb : s1.bad = true
    · have hS : valS s = (⟨0, 0, []⟩, ⟨s1.b, true⟩) := by unfold valS; rw [hR, if_pos (Or.inl hb)]
      conv => whnf
      repeat ((first | (apply guardI; · kernel_rfl) | (apply condT; · assumption) | (apply condF; · assumption) | (apply condNT; · assumption) | (apply condNF; · assumption)); conv => whnf)
      exact finS hS (by kernel_rfl) (by kernel_rfl)
    · have hb' : s1.bad = false := by cases h : s1.bad; rfl; exact absurd h hb
      conv => whnf
      repeat ((first | (apply guardI; · kernel_rfl) | (apply condT; · assumption) | (apply condF; · assumption) | (apply condNT; · assumption) | (apply condNF; · assumption)); conv => whnf)
      refine ⟨_, _, e71 ⟨0, 0, []⟩ (by first | (show (0 : Nat) < _; decide) | (simp only []; omega)), ?_⟩
      conv => whnf
      repeat ((first | (apply guardI; · kernel_rfl) | (apply condT; · assumption) | (apply condF; · assumption) | (apply condNT; · assumption) | (apply condNF; · assumption)); conv => whnf)
      by_cases hr : rightB ⟨0, 0, []⟩ = true
      · have hS : valS s = (⟨0, 0, []⟩, s1) := by unfold valS; rw [hR, if_neg (by simp [hb', hr])]
        conv => whnf
        repeat ((first | (apply guardI; · kernel_rfl) | (apply condT; · assumption) | (apply condF; · assumption) | (apply condNT; · assumption) | (apply condNF; · assumption)); conv => whnf)
        exact finS hS (by kernel_rfl) (by kernel_rfl)
      · have hr' : rightB ⟨0, 0, []⟩ = false := by cases h : rightB ⟨0, 0, []⟩; rfl; exact absurd h hr
        have hS : valS s = (⟨0, 0, []⟩, ⟨s1.b, true⟩) := by unfold valS; rw [hR, if_pos (Or.inr hr')]
        conv => whnf
        repeat ((first | (apply guardI; · kernel_rfl) | (apply condT; · assumption) | (apply condF; · assumption) | (apply condNT; · assumption) | (apply condNF; · assumption)); conv => whnf)
        exact finS hS (by kernel_rfl) (by kernel_rfl)
  have hd0 : decide (k = 0) = false := by simpa using k0
  rw [if_neg k0] at hR
  by_cases k1 : k = 1
  · have hd1 : decide (k = 1) = true := by simpa using k1
    rw [if_pos k1] at hR
    subst k1
    refine cp59.vev ?_
    conv => whnf
    repeat ((first | (apply guardI; · kernel_rfl) | (apply condT; · assumption) | (apply condF; · assumption) | (apply condNT; · assumption) | (apply condNF; · assumption)); conv => whnf)
    refine ⟨_, _, h30, ?_⟩
    conv => whnf
    repeat ((first | (apply guardI; · kernel_rfl) | (apply condT; · assumption) | (apply condF; · assumption) | (apply condNT; · assumption) | (apply condNF; · assumption)); conv => whnf)
    refine ⟨_, _, h30', ?_⟩
    conv => whnf
    repeat ((first | (apply guardI; · kernel_rfl) | (apply condT; · assumption) | (apply condF; · assumption) | (apply condNT; · assumption) | (apply condNF; · assumption)); conv => whnf)
    by_cases hb : s2.bad = true
    · have hS : valS s = (⟨0, 0, []⟩, ⟨s2.b, true⟩) := by unfold valS; rw [hR, if_pos (Or.inl hb)]
      conv => whnf
      repeat ((first | (apply guardI; · kernel_rfl) | (apply condT; · assumption) | (apply condF; · assumption) | (apply condNT; · assumption) | (apply condNF; · assumption)); conv => whnf)
      exact finS hS (by kernel_rfl) (by kernel_rfl)
    · have hb' : s2.bad = false := by cases h : s2.bad; rfl; exact absurd h hb
      conv => whnf
      repeat ((first | (apply guardI; · kernel_rfl) | (apply condT; · assumption) | (apply condF; · assumption) | (apply condNT; · assumption) | (apply condNF; · assumption)); conv => whnf)
      refine ⟨_, _, e71 ⟨1, n, []⟩ (by first | (show (0 : Nat) < _; decide) | (simp only []; omega)), ?_⟩
      conv => whnf
      repeat ((first | (apply guardI; · kernel_rfl) | (apply condT; · assumption) | (apply condF; · assumption) | (apply condNT; · assumption) | (apply condNF; · assumption)); conv => whnf)
      by_cases hr : rightB ⟨1, n, []⟩ = true
      · have hS : valS s = (⟨1, n, []⟩, s2) := by unfold valS; rw [hR, if_neg (by simp [hb', hr])]
        conv => whnf
        repeat ((first | (apply guardI; · kernel_rfl) | (apply condT; · assumption) | (apply condF; · assumption) | (apply condNT; · assumption) | (apply condNF; · assumption)); conv => whnf)
        exact finS hS (by kernel_rfl) (by kernel_rfl)
      · have hr' : rightB ⟨1, n, []⟩ = false := by cases h : rightB ⟨1, n, []⟩; rfl; exact absurd h hr
        have hS : valS s = (⟨0, 0, []⟩, ⟨s2.b, true⟩) := by unfold valS; rw [hR, if_pos (Or.inr hr')]
        conv => whnf
        repeat ((first | (apply guardI; · kernel_rfl) | (apply condT; · assumption) | (apply condF; · assumption) | (apply condNT; · assumption) | (apply condNF; · assumption)); conv => whnf)
        exact finS hS (by kernel_rfl) (by kernel_rfl)
  have hd1 : decide (k = 1) = false := by simpa using k1
  rw [if_neg k1] at hR
  by_cases k2 : k = 2
  · have hd2 : decide (k = 2) = true := by simpa using k2
    rw [if_pos k2] at hR
    subst k2
    refine cp59.vev ?_
    conv => whnf
    repeat ((first | (apply guardI; · kernel_rfl) | (apply condT; · assumption) | (apply condF; · assumption) | (apply condNT; · assumption) | (apply condNF; · assumption)); conv => whnf)
    refine ⟨_, _, h30, ?_⟩
    conv => whnf
    repeat ((first | (apply guardI; · kernel_rfl) | (apply condT; · assumption) | (apply condF; · assumption) | (apply condNT; · assumption) | (apply condNF; · assumption)); conv => whnf)
    refine ⟨_, _, h31, ?_⟩
    conv => whnf
    repeat ((first | (apply guardI; · kernel_rfl) | (apply condT; · assumption) | (apply condF; · assumption) | (apply condNT; · assumption) | (apply condNF; · assumption)); conv => whnf)
    by_cases hb : s3.bad = true
    · have hS : valS s = (⟨0, 0, []⟩, ⟨s3.b, true⟩) := by unfold valS; rw [hR, if_pos (Or.inl hb)]
      conv => whnf
      repeat ((first | (apply guardI; · kernel_rfl) | (apply condT; · assumption) | (apply condF; · assumption) | (apply condNT; · assumption) | (apply condNF; · assumption)); conv => whnf)
      exact finS hS (by kernel_rfl) (by kernel_rfl)
    · have hb' : s3.bad = false := by cases h : s3.bad; rfl; exact absurd h hb
      conv => whnf
      repeat ((first | (apply guardI; · kernel_rfl) | (apply condT; · assumption) | (apply condF; · assumption) | (apply condNT; · assumption) | (apply condNF; · assumption)); conv => whnf)
      refine ⟨_, _, e71 ⟨2, 0, t⟩ (by first | (show (0 : Nat) < _; decide) | (simp only []; omega)), ?_⟩
      conv => whnf
      repeat ((first | (apply guardI; · kernel_rfl) | (apply condT; · assumption) | (apply condF; · assumption) | (apply condNT; · assumption) | (apply condNF; · assumption)); conv => whnf)
      by_cases hr : rightB ⟨2, 0, t⟩ = true
      · have hS : valS s = (⟨2, 0, t⟩, s3) := by unfold valS; rw [hR, if_neg (by simp [hb', hr])]
        conv => whnf
        repeat ((first | (apply guardI; · kernel_rfl) | (apply condT; · assumption) | (apply condF; · assumption) | (apply condNT; · assumption) | (apply condNF; · assumption)); conv => whnf)
        exact finS hS (by kernel_rfl) (by kernel_rfl)
      · have hr' : rightB ⟨2, 0, t⟩ = false := by cases h : rightB ⟨2, 0, t⟩; rfl; exact absurd h hr
        have hS : valS s = (⟨0, 0, []⟩, ⟨s3.b, true⟩) := by unfold valS; rw [hR, if_pos (Or.inr hr')]
        conv => whnf
        repeat ((first | (apply guardI; · kernel_rfl) | (apply condT; · assumption) | (apply condF; · assumption) | (apply condNT; · assumption) | (apply condNF; · assumption)); conv => whnf)
        exact finS hS (by kernel_rfl) (by kernel_rfl)
  have hd2 : decide (k = 2) = false := by simpa using k2
  rw [if_neg k2] at hR
  have hS : valS s = (⟨0, 0, []⟩, ⟨s1.b, true⟩) := by unfold valS; rw [hR, if_pos (Or.inl rfl)]
  refine cp59.vev ?_
  conv => whnf
  repeat ((first | (apply guardI; · kernel_rfl) | (apply condT; · assumption) | (apply condF; · assumption) | (apply condNT; · assumption) | (apply condNF; · assumption)); conv => whnf)
  refine ⟨_, _, h30, ?_⟩
  conv => whnf
  repeat ((first | (apply guardI; · kernel_rfl) | (apply condT; · assumption) | (apply condF; · assumption) | (apply condNT; · assumption) | (apply condNF; · assumption)); conv => whnf)
  exact finS hS (by kernel_rfl) (by kernel_rfl)
end
end Go.Proofs.YthalcnhgnadmlaaDoor
