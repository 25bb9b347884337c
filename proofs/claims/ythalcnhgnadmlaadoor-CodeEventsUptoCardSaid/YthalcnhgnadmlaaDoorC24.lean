/- Bytes: many partitions are read. Conditions: none. -/
import Derived.Test.YthalcnhgnadmlaaDoorC23
set_option maxRecDepth 100000
namespace Go.Proofs.YthalcnhgnadmlaaDoor
open Go Go.Vm

def partsL : Nat → List Pt → RS → List Pt × RS
  | 0, acc, s => (acc, s)
  | n + 1, acc, s => if (partS s).2.bad = true then ([], (partS s).2) else partsL n (acc ++ [(partS s).1]) (partS s).2
def partsS (s : RS) : List Pt × RS := partsL (countS s 16384).1.toNat [] (countS s 16384).2

theorem psD_snoc (l : List Pt) (p : Pt) : l.map Pt.d ++ [p.d] = (l ++ [p]).map Pt.d := by rw [List.map_append]; rfl

section
attribute [local irreducible] Int.decLt Int.decLe Int.instDecidableEq IntKind.wrap instDecidableEqList

def st60 (k : Nat) (acc : List D) (s : Store) (n : Int) : St := mkSB [(2, .func 32 [.agg [.ptr 0 0]] []), (3, .lref 3 0), (7, .own 2 acc), (12, .d (int k)), (13, .d (int n))] [(3, [.ptr 0 0])] s
theorem e60 (s : RS) : VEv Tryd.prog gl 60 [.agg [.ptr 0 0], .d (int 16384), .func 32 [.agg [.ptr 0 0]] []] s.st (.d (psD (partsS s).1)) (partsS s).2.st := by
  have h58 := e58 s 16384
  have hle := countS_le s 16384 (by omega)
  obtain ⟨w, hw⟩ : ∃ w, w = partsS s := ⟨_, rfl⟩
  rw [← hw]
  unfold partsS at hw
  generalize countS s 16384 = p at h58 hle hw
  obtain ⟨k0, s1⟩ := p
  obtain ⟨k, rfl⟩ : ∃ k : Nat, k0 = k := ⟨k0.toNat, by dsimp only at hle; omega⟩
  dsimp only at h58 hle hw
  rw [Int.toNat_natCast] at hw
  refine cp60.vev ?_
  conv => whnf
  repeat ((first | (apply guardI; · kernel_rfl) | (apply condT; · assumption) | (apply condF; · assumption) | (apply condNT; · assumption) | (apply condNF; · assumption)); conv => whnf)
  refine ⟨_, _, h58, ?_⟩
  conv => whnf
  repeat ((first | (apply guardI; · kernel_rfl) | (apply condT; · assumption) | (apply condF; · assumption) | (apply condNT; · assumption) | (apply condNF; · assumption)); conv => whnf)
  refine ⟨fun n st => ∃ (i : Nat) (acc : List Pt) (s2 : RS), i ≤ k ∧ n = k - i ∧ acc.length = i ∧ partsL (k - i) acc s2 = w ∧ st = st60 k (acc.map Pt.d) s2.st i, k, ⟨0, [], s1, by omega, rfl, rfl, hw.symm, by kernel_rfl⟩, ?_⟩
  intro _ _ H
  refine Exists.elim H (fun i H => Exists.elim H (fun acc H => Exists.elim H (fun s2 H => ?_)))
  have hi := H.1
  have hn := H.2.1
  have hacc := H.2.2.1
  have hL := H.2.2.2.1
  have hst := H.2.2.2.2
  clear H
  subst hn
  subst hst
  have h32 := e32 s2
  conv => whnf
  repeat ((first | (apply guardI; · kernel_rfl) | (apply condT; · assumption) | (apply condF; · assumption) | (apply condNT; · assumption) | (apply condNF; · assumption)); conv => whnf)
  by_cases hik : i < k
  · have hd : decide ((i : Int) < (k : Int)) = true := by simpa using hik
    have hstep : partsL (k - i) acc s2 = if (partS s2).2.bad = true then ([], (partS s2).2) else partsL (k - (i + 1)) (acc ++ [(partS s2).1]) (partS s2).2 := by
      rw [show k - i = (k - (i + 1)) + 1 by omega]; rfl
    rw [hL] at hstep
    generalize partS s2 = q at h32 hstep
    conv => whnf
    repeat ((first | (apply guardI; · kernel_rfl) | (apply condT; · assumption) | (apply condF; · assumption) | (apply condNT; · assumption) | (apply condNF; · assumption)); conv => whnf)
    refine ⟨_, _, h32, ?_⟩
    conv => whnf
    repeat ((first | (apply guardI; · kernel_rfl) | (apply condT; · assumption) | (apply condF; · assumption) | (apply condNT; · assumption) | (apply condNF; · assumption)); conv => whnf)
    refine ⟨_, _, e72 q.2, ?_⟩
    conv => whnf
    repeat ((first | (apply guardI; · kernel_rfl) | (apply condT; · assumption) | (apply condF; · assumption) | (apply condNT; · assumption) | (apply condNF; · assumption)); conv => whnf)
    by_cases hb : q.2.bad = true
    · rw [if_pos hb] at hstep
      subst hstep
      conv => whnf
      repeat ((first | (apply guardI; · kernel_rfl) | (apply condT; · assumption) | (apply condF; · assumption) | (apply condNT; · assumption) | (apply condNF; · assumption)); conv => whnf)
      exact ⟨by kernel_rfl, by kernel_rfl⟩
    · have hb' : q.2.bad = false := by cases h : q.2.bad; rfl; exact absurd h hb
      rw [if_neg hb] at hstep
      conv => whnf
      repeat ((first | (apply condT; · assumption) | (apply condF; · assumption) | (apply condNT; · assumption) | (apply condNF; · assumption)); conv => whnf)
      refine ⟨by kernel_rfl, ?_⟩
      conv => whnf
      repeat ((first | (apply condT; · assumption) | (apply condF; · assumption) | (apply condNT; · assumption) | (apply condNF; · assumption)); conv => whnf)
      refine ⟨by simp; omega, ?_⟩
      conv => whnf
      repeat ((first | (apply guardI; · kernel_rfl) | (apply condT; · assumption) | (apply condF; · assumption) | (apply condNT; · assumption) | (apply condNF; · assumption)); conv => whnf)
      refine ⟨k - (i + 1), by omega, i + 1, acc ++ [q.1], q.2, by omega, rfl, by simp [hacc], hstep.symm, ?_⟩
      rw [← psD_snoc]
      exact congrArg (st60 k _ _) (wrapB hik (by show _ < 4611686018427387904; omega))
  · have hd : decide ((i : Int) < (k : Int)) = false := by simpa using hik
    have hki : k - i = 0 := by omega
    rw [hki] at hL
    subst hL
    conv => whnf
    repeat ((first | (apply guardI; · kernel_rfl) | (apply condT; · assumption) | (apply condF; · assumption) | (apply condNT; · assumption) | (apply condNF; · assumption)); conv => whnf)
    exact ⟨by kernel_rfl, by kernel_rfl⟩
end
end Go.Proofs.YthalcnhgnadmlaaDoor
