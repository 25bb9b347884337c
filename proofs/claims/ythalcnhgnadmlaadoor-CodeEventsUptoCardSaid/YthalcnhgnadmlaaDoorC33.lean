/- Any bytes are an event's, or refused. Conditions: none. -/
import Derived.Test.YthalcnhgnadmlaaDoorC32
set_option maxRecDepth 100000
namespace Go.Proofs.YthalcnhgnadmlaaDoor
open Go Go.Vm

theorem zE_ok (k : Int) : EvOk (zE k) := ⟨smz, smz, smz, by intro p hp; exact absurd hp (by simp [zE]), smz, by intro p hp; exact absurd hp (by simp [zE]), smz, by intro p hp; exact absurd hp (by simp [zE]), by intro p hp; exact absurd hp (by simp [zE])⟩

section
attribute [local irreducible] Int.decLt Int.decLe Int.instDecidableEq IntKind.wrap instDecidableEqList

set_option maxHeartbeats 3200000 in
theorem e4 (b : Bs) (hb : b.length < SM) : VEv Tryd.prog gl 4 [.d (bs b)] [] (.d (.bool true)) [] := by
  have h6 := e6
  by_cases h1 : 1500 < b.length
  · have t1 : decide ((1500 : Int) < ((b.map byteD).length : Int)) = true := by simp; omega
    refine cp4.vev ?_
    conv => whnf
    repeat ((first | (apply guardI; · kernel_rfl) | (apply condT; · assumption) | (apply condF; · assumption) | (apply condNT; · assumption) | (apply condNF; · assumption)); conv => whnf)
    refine callK (h6) (by kernel_rfl) (by kernel_rfl) ?_
    conv => whnf
    repeat ((first | (apply guardI; · kernel_rfl) | (apply condT; · assumption) | (apply condF; · assumption) | (apply condNT; · assumption) | (apply condNF; · assumption)); conv => whnf)
    exact ⟨by kernel_rfl, by kernel_rfl⟩
  · have t1 : decide ((1500 : Int) < ((b.map byteD).length : Int)) = false := by simp; omega
    have h14 := e14 b hb
    rcases readS_or b hb with hr | ⟨hr, he, hR, ho, hv⟩
    · rw [hr] at h14
      have h9 := e9 (zE 0) (zE 0) (zE_ok 0)
      rw [decide_eq_true rfl] at h9
      have t2 : decide ((20 : Int) = 0) = false := by simp
      have t3 : decide ((20 : Int) = 20) = true := by simp
      refine cp4.vev ?_
      conv => whnf
      repeat ((first | (apply guardI; · kernel_rfl) | (apply condT; · assumption) | (apply condF; · assumption) | (apply condNT; · assumption) | (apply condNF; · assumption)); conv => whnf)
      refine callK (h14) (by kernel_rfl) (by kernel_rfl) ?_
      conv => whnf
      repeat ((first | (apply guardI; · kernel_rfl) | (apply condT; · assumption) | (apply condF; · assumption) | (apply condNT; · assumption) | (apply condNF; · assumption)); conv => whnf)
      refine callK (h9) (by kernel_rfl) (by kernel_rfl) ?_
      conv => whnf
      repeat ((first | (apply guardI; · kernel_rfl) | (apply condT; · assumption) | (apply condF; · assumption) | (apply condNT; · assumption) | (apply condNF; · assumption)); conv => whnf)
      refine callK (h6) (by kernel_rfl) (by kernel_rfl) ?_
      conv => whnf
      repeat ((first | (apply guardI; · kernel_rfl) | (apply condT; · assumption) | (apply condF; · assumption) | (apply condNT; · assumption) | (apply condNF; · assumption)); conv => whnf)
      exact ⟨by kernel_rfl, by kernel_rfl⟩
    · rw [hr] at h14
      generalize (readS b).1 = e at h14 he hR ho hv
      have h12 := e12 e ho
      rw [hR] at h12
      have hk := rightB_inv hR
      have h15 := e15 e ho hv ⟨hk.1, hk.2.1⟩ (by rw [← he]; exact Nat.lt_trans hb (by decide))
      rw [← he] at h15
      have t2 : decide ((0 : Int) = 0) = true := by simp
      have hu : unbytes (b.map byteD) = some b := unbytes_map b
      have t4 : decide (b = b) = true := by simp
      refine cp4.vev ?_
      conv => whnf
      repeat ((first | (apply guardI; · kernel_rfl) | (apply condT; · assumption) | (apply condF; · assumption) | (apply condNT; · assumption) | (apply condNF; · assumption)); conv => whnf)
      refine callK (h14) (by kernel_rfl) (by kernel_rfl) ?_
      conv => whnf
      repeat ((first | (apply guardI; · kernel_rfl) | (apply condT; · assumption) | (apply condF; · assumption) | (apply condNT; · assumption) | (apply condNF; · assumption)); conv => whnf)
      refine callK (h12) (by kernel_rfl) (by kernel_rfl) ?_
      conv => whnf
      repeat ((first | (apply guardI; · kernel_rfl) | (apply condT; · assumption) | (apply condF; · assumption) | (apply condNT; · assumption) | (apply condNF; · assumption)); conv => whnf)
      refine callK (h15) (by kernel_rfl) (by kernel_rfl) ?_
      conv => whnf
      repeat ((first | (apply guardI; · kernel_rfl) | (apply condT; · assumption) | (apply condF; · assumption) | (apply condNT; · assumption) | (apply condNF; · assumption)); conv => whnf)
      simp only [hu]
      conv => whnf
      repeat ((first | (apply guardI; · kernel_rfl) | (apply condT; · assumption) | (apply condF; · assumption) | (apply condNT; · assumption) | (apply condNF; · assumption)); conv => whnf)
      simp only [hu]
      conv => whnf
      repeat ((first | (apply guardI; · kernel_rfl) | (apply condT; · assumption) | (apply condF; · assumption) | (apply condNT; · assumption) | (apply condNF; · assumption)); conv => whnf)
      refine callK (h6) (by kernel_rfl) (by kernel_rfl) ?_
      conv => whnf
      repeat ((first | (apply guardI; · kernel_rfl) | (apply condT; · assumption) | (apply condF; · assumption) | (apply condNT; · assumption) | (apply condNF; · assumption)); conv => whnf)
      exact ⟨by kernel_rfl, by kernel_rfl⟩
end
end Go.Proofs.YthalcnhgnadmlaaDoor
