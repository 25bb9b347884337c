/- The law of this seat: what the function says, and the fixed run behind it. Conditions: none. -/
import Derived.Test.YticclabeamioiaaGreatDoorAwake
import Derived.Test.YticclabeamioiaaGreatDoorV5
set_option maxRecDepth 100000
namespace Go.Proofs.YticclabeamioiaaGreatDoor
open Go Go.Vm

attribute [local irreducible] Int.decLt Int.decLe Int.instDecidableEq IntKind.wrap instDecidableEqList

def again (e : Int) : Bool := decide (e = 63) || decide (e = 41)

theorem e4 (e : Int) : VEv Tryz.prog gl 4 [.d (.int .i64 e)] [] (.d (.bool (again e))) [] := by
  refine cp4.vev ?_
  conv => whnf
  repeat ((first | (apply guardI; · kernel_rfl) | (apply condT; · assumption) | (apply condF; · assumption) | (apply condNT; · assumption) | (apply condNF; · assumption)); conv => whnf)
  first | refine condGF (fun h1 => ?_) (fun h1 => ?_) | ((refine condI (fun h1 => ?_) (fun h1 => ?_)) <;> (try simp only [cond_true] at h1))
  · conv => whnf
    repeat ((first | (apply guardI; · kernel_rfl) | (apply condT; · assumption) | (apply condF; · assumption) | (apply condNT; · assumption) | (apply condNF; · assumption)); conv => whnf)
    exact ⟨by unfold again; rw [h1]; rfl, rfl⟩
  · conv => whnf
    repeat ((first | (apply guardI; · kernel_rfl) | (apply condT; · assumption) | (apply condF; · assumption) | (apply condNT; · assumption) | (apply condNF; · assumption)); conv => whnf)
    refine ⟨?_, rfl⟩
    unfold again
    rw [h1]
    rfl

theorem e5 : VEv Tryz.prog gl 5 [] [] (.d (.bool true)) [] := awv

theorem e3a : execQ awx8 tab gl 1000 60 3 [.d (.int .i64 63)] [] = some (.d (.bool true), []) := by kernel_rfl
theorem e3b : execQ awx8 tab gl 1000 60 3 [.d (.int .i64 41)] [] = some (.d (.bool true), []) := by kernel_rfl

theorem e3 (e : Int) : VEv Tryz.prog gl 3 [.d (.int .i64 e)] [] (.d (.bool true)) [] := by
  by_cases k1 : e = 63
  · subst k1
    exact execQ_sound awk8 tabOk 60 _ _ _ _ _ e3a
  · by_cases k2 : e = 41
    · subst k2
      exact execQ_sound awk8 tabOk 60 _ _ _ _ _ e3b
    · have h1 : decide (e = 63) = false := decide_eq_false k1
      have h2 : decide (e = 41) = false := decide_eq_false k2
      have c4 : VEv Tryz.prog gl 4 [.d (.int .i64 e)] [] (.d (.bool false)) [] := by
        have := e4 e
        unfold again at this
        rw [h1, h2] at this
        exact this
      refine cp3.vev ?_
      conv => whnf
      repeat ((first | (apply guardI; · kernel_rfl) | (apply condT; · assumption) | (apply condF; · assumption) | (apply condNT; · assumption) | (apply condNF; · assumption)); conv => whnf)
      refine ⟨_, _, c4, ?_⟩
      conv => whnf
      repeat ((first | (apply guardI; · kernel_rfl) | (apply condT; · assumption) | (apply condF; · assumption) | (apply condNT; · assumption) | (apply condNF; · assumption)); conv => whnf)
      refine condT (by rw [h2]; rfl) ?_
      conv => whnf
      repeat ((first | (apply guardI; · kernel_rfl) | (apply condT; · assumption) | (apply condF; · assumption) | (apply condNT; · assumption) | (apply condNF; · assumption)); conv => whnf)
      refine ⟨_, _, e5, ?_⟩
      conv => whnf
      repeat ((first | (apply guardI; · kernel_rfl) | (apply condT; · assumption) | (apply condF; · assumption) | (apply condNT; · assumption) | (apply condNF; · assumption)); conv => whnf)
      refine condT (by rw [h2]; rfl) ?_
      conv => whnf
      repeat ((first | (apply guardI; · kernel_rfl) | (apply condT; · assumption) | (apply condF; · assumption) | (apply condNT; · assumption) | (apply condNF; · assumption)); conv => whnf)
      exact ⟨by kernel_rfl, by kernel_rfl⟩

end Go.Proofs.YticclabeamioiaaGreatDoor
