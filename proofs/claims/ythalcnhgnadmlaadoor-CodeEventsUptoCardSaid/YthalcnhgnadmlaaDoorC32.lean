/- Bytes: small events. Conditions: none. -/
import Derived.Test.YthalcnhgnadmlaaDoorC31
set_option maxRecDepth 100000
namespace Go.Proofs.YthalcnhgnadmlaaDoor
open Go Go.Vm

structure Small (e : Ev) : Prop where
  text : e.text.length ≤ 1500
  pa : e.pa.length ≤ 50
  ps : e.ps.length ≤ 30
  r : e.r.length ≤ 20
  s : e.s.length ≤ 16
  pas : ∀ p, p ∈ e.ps → p.a.length ≤ 50

section
attribute [local irreducible] Int.decLt Int.decLe Int.instDecidableEq IntKind.wrap instDecidableEqList

def st5 (e : Ev) (n : Int) : St := mkS [(0, .d (.list 11 [e.d])), (1, .d (int 1)), (9, .d (.list 11 [e.d])), (10, .d (int 1)), (11, .d (int n))] []
def st5b (e : Ev) (m : Int) (n : Int) : St := mkS [(0, .d (.list 11 [e.d])), (1, .d (int 1)), (9, .d (.list 11 [e.d])), (10, .d (int 1)), (11, .d (int 0)), (47, .d (psD e.ps)), (48, .d (int m)), (49, .d (int n))] []

set_option maxHeartbeats 3200000 in
theorem e5 (e : Ev) (hps : e.ps.length < SM) : ∃ b : Bool, (b = true → Small e) ∧ VEv Tryd.prog gl 5 [.d (.list 11 [e.d]), .d (int 1)] [] (.d (.bool b)) [] := by
  have hps : e.ps.length < 4294967296 := hps
  have d01 : decide ((0 : Int) < 1) = true := by simp
  have d11 : decide ((1 : Int) < 1) = false := by simp
  refine tot (fun b : Bool => .d (.bool b)) _ cp5 ?_
  conv => whnf
  repeat ((first | (apply guardI; · kernel_rfl) | (apply condT; · assumption) | (apply condF; · assumption) | (apply condNT; · assumption) | (apply condNF; · assumption)); conv => whnf)
  refine ⟨fun n st => (n = 1 ∧ st = st5 e 0) ∨ (n = 0 ∧ Small e ∧ st = st5 e 1), 1, Or.inl ⟨rfl, by kernel_rfl⟩, ?_⟩
  intro _ _ H
  rcases H with ⟨rfl, rfl⟩ | ⟨rfl, hsm, rfl⟩
  · conv => whnf
    repeat ((first | (apply guardI; · kernel_rfl) | (apply condT; · assumption) | (apply condF; · assumption) | (apply condNT; · assumption) | (apply condNF; · assumption)); conv => whnf)
    by_cases h1 : 1500 < e.text.length
    · have t1 : decide ((1500 : Int) < (e.text.length : Int)) = true := by simp; omega
      conv => whnf
      repeat ((first | (apply guardI; · kernel_rfl) | (apply condT; · assumption) | (apply condF; · assumption) | (apply condNT; · assumption) | (apply condNF; · assumption)); conv => whnf)
      exact ⟨⟨false, fun h => absurd h (by simp), rfl⟩, rfl⟩
    have t1 : decide ((1500 : Int) < (e.text.length : Int)) = false := by simp; omega
    by_cases h2 : 50 < e.pa.length
    · have t2 : decide ((50 : Int) < (e.pa.length : Int)) = true := by simp; omega
      conv => whnf
      repeat ((first | (apply guardI; · kernel_rfl) | (apply condT; · assumption) | (apply condF; · assumption) | (apply condNT; · assumption) | (apply condNF; · assumption)); conv => whnf)
      exact ⟨⟨false, fun h => absurd h (by simp), rfl⟩, rfl⟩
    have t2 : decide ((50 : Int) < (e.pa.length : Int)) = false := by simp; omega
    by_cases h3 : 30 < e.ps.length
    · have t3 : decide ((30 : Int) < ((e.ps.map Pt.d).length : Int)) = true := by simp; omega
      conv => whnf
      repeat ((first | (apply guardI; · kernel_rfl) | (apply condT; · assumption) | (apply condF; · assumption) | (apply condNT; · assumption) | (apply condNF; · assumption)); conv => whnf)
      exact ⟨⟨false, fun h => absurd h (by simp), rfl⟩, rfl⟩
    have t3 : decide ((30 : Int) < ((e.ps.map Pt.d).length : Int)) = false := by simp; omega
    by_cases h4 : 20 < e.r.length
    · have t4 : decide ((20 : Int) < ((e.r.map rD).length : Int)) = true := by simp; omega
      conv => whnf
      repeat ((first | (apply guardI; · kernel_rfl) | (apply condT; · assumption) | (apply condF; · assumption) | (apply condNT; · assumption) | (apply condNF; · assumption)); conv => whnf)
      exact ⟨⟨false, fun h => absurd h (by simp), rfl⟩, rfl⟩
    have t4 : decide ((20 : Int) < ((e.r.map rD).length : Int)) = false := by simp; omega
    by_cases h5 : 16 < e.s.length
    · have t5 : decide ((16 : Int) < ((e.s.map Co.d).length : Int)) = true := by simp; omega
      conv => whnf
      repeat ((first | (apply guardI; · kernel_rfl) | (apply condT; · assumption) | (apply condF; · assumption) | (apply condNT; · assumption) | (apply condNF; · assumption)); conv => whnf)
      exact ⟨⟨false, fun h => absurd h (by simp), rfl⟩, rfl⟩
    have t5 : decide ((16 : Int) < ((e.s.map Co.d).length : Int)) = false := by simp; omega
    conv => whnf
    repeat ((first | (apply guardI; · kernel_rfl) | (apply condT; · assumption) | (apply condF; · assumption) | (apply condNT; · assumption) | (apply condNF; · assumption)); conv => whnf)
    refine ⟨fun n st => ∃ i : Nat, i ≤ e.ps.length ∧ n = e.ps.length - i ∧ (∀ j (hj : j < e.ps.length), j < i → e.ps[j].a.length ≤ 50) ∧ st = st5b e ((e.ps.map Pt.d).length : Int) i, e.ps.length, ⟨0, by omega, rfl, by omega, by kernel_rfl⟩, ?_⟩
    intro _ _ H
    refine Exists.elim H (fun i H => ?_)
    have hi := H.1
    have hn := H.2.1
    have hall := H.2.2.1
    have hst := H.2.2.2
    clear H
    subst hn
    subst hst
    conv => whnf
    repeat ((first | (apply guardI; · kernel_rfl) | (apply condT; · assumption) | (apply condF; · assumption) | (apply condNT; · assumption) | (apply condNF; · assumption)); conv => whnf)
    by_cases hik : i < e.ps.length
    · have hd : decide ((i : Int) < ((e.ps.map Pt.d).length : Int)) = true := by simpa using hik
      conv => whnf
      repeat ((first | (apply condT; · assumption) | (apply condF; · assumption) | (apply condNT; · assumption) | (apply condNF; · assumption)); conv => whnf)
      refine ⟨by simp [hik], ?_⟩
      simp only [getD_map (f := Pt.d) (d := .nilp) hik]
      conv => whnf
      repeat ((first | (apply guardI; · kernel_rfl) | (apply condT; · assumption) | (apply condF; · assumption) | (apply condNT; · assumption) | (apply condNF; · assumption)); conv => whnf)
      by_cases h6 : 50 < e.ps[i].a.length
      · have t6 : decide ((50 : Int) < (e.ps[i].a.length : Int)) = true := by simp; omega
        conv => whnf
        repeat ((first | (apply guardI; · kernel_rfl) | (apply condT; · assumption) | (apply condF; · assumption) | (apply condNT; · assumption) | (apply condNF; · assumption)); conv => whnf)
        exact ⟨⟨false, fun h => absurd h (by simp), rfl⟩, rfl⟩
      · have t6 : decide ((50 : Int) < (e.ps[i].a.length : Int)) = false := by simp; omega
        conv => whnf
        repeat ((first | (apply guardI; · kernel_rfl) | (apply condT; · assumption) | (apply condF; · assumption) | (apply condNT; · assumption) | (apply condNF; · assumption)); conv => whnf)
        refine ⟨e.ps.length - (i + 1), by omega, i + 1, by omega, rfl, ?_, ?_⟩
        · intro j hj hj2
          by_cases hje : j = i
          · subst hje; omega
          · exact hall j hj (by omega)
        · exact congrArg (st5b e _) (wrapB hik (sm_big hps))
    · have hd : decide ((i : Int) < ((e.ps.map Pt.d).length : Int)) = false := by simpa using hik
      conv => whnf
      repeat ((first | (apply guardI; · kernel_rfl) | (apply condT; · assumption) | (apply condF; · assumption) | (apply condNT; · assumption) | (apply condNF; · assumption)); conv => whnf)
      refine ⟨0, by omega, Or.inr ⟨rfl, ⟨by omega, by omega, by omega, by omega, by omega, ?_⟩, ?_⟩⟩
      · intro p hp
        obtain ⟨j, hj, rfl⟩ := List.getElem_of_mem hp
        exact hall j hj (by omega)
      · exact congrArg (st5 e) (by kernel_rfl)
  · conv => whnf
    repeat ((first | (apply guardI; · kernel_rfl) | (apply condT; · assumption) | (apply condF; · assumption) | (apply condNT; · assumption) | (apply condNF; · assumption)); conv => whnf)
    exact ⟨⟨true, fun _ => hsm, by kernel_rfl⟩, by kernel_rfl⟩
end
end Go.Proofs.YthalcnhgnadmlaaDoor
