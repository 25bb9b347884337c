/- Events: what their kind names; equality; what is right. Conditions: none. -/
import Derived.Test.YthalcnhgnadmlaaDoorC4
set_option maxRecDepth 100000
namespace Go.Proofs.YthalcnhgnadmlaaDoor
open Go Go.Vm

structure Ev where
  k : Int
  id : Int
  n : Int
  text : Bs
  pa : Bs
  pi : Int
  ps : List Pt
  s : List Co
  r : List (List Va)
  err : Int
  flag : Bool
  deriving DecidableEq
def Ev.d (e : Ev) : D := .agg [int e.k, int e.id, int e.n, .str e.text, .str e.pa, int e.pi, psD e.ps, sD e.s, rsD e.r, int e.err, .bool e.flag]
def Ev.t (e : Ev) : Tb := ⟨e.s, e.r⟩
def zE (k : Int) : Ev := ⟨k, 0, 0, [], [], 0, [], [], [], 0, false⟩

/-- What its kind names, alone. -/
def Ev.only (e : Ev) : Ev :=
  if e.k = 1 then { zE 1 with text := e.text }
  else if e.k = 2 then { zE 2 with pa := e.pa, pi := e.pi, s := e.s, r := e.r }
  else if e.k = 3 then { zE 3 with n := e.n }
  else if e.k = 4 then { zE 4 with text := e.text, n := e.n, ps := e.ps, flag := e.flag }
  else if e.k = 5 then { zE 5 with ps := e.ps, flag := e.flag }
  else if e.k = 6 then { zE 6 with id := e.id }
  else if e.k = 7 then { zE 7 with pa := e.pa, pi := e.pi }
  else if e.k = 8 then { zE 8 with id := e.id, s := e.s, r := e.r }
  else if e.k = 9 then { zE 9 with id := e.id, n := e.n, err := e.err, flag := e.flag }
  else if e.k = 10 then { zE 10 with id := e.id }
  else if e.k = 11 then { zE 11 with flag := e.flag }
  else if e.k = 12 then zE 12
  else if e.k = 13 then zE 13
  else zE 0

/-- Its sizes. -/
structure EvOk (e : Ev) : Prop where
  text : e.text.length < SM
  pa : e.pa.length < SM
  ps : e.ps.length < SM
  pas : ∀ p, p ∈ e.ps → p.a.length < SM
  s : e.s.length < SM
  ss : ∀ c, c ∈ e.s → c.name.length < SM
  r : e.r.length < SM
  rr : ∀ r, r ∈ e.r → r.length < SM
  rt : ∀ r, r ∈ e.r → ∀ v, v ∈ r → v.t.length < SM

theorem sm_big {n : Nat} (h : n < SM) : n < BIG := Nat.lt_trans h (by decide)
theorem EvOk.tb {e : Ev} (h : EvOk e) : TbOk e.t :=
  ⟨⟨sm_big h.s, fun c hc => sm_big (h.ss c hc)⟩, sm_big h.r, fun r hr => ⟨sm_big (h.rr r hr), fun v hv => sm_big (h.rt r hr v hv)⟩⟩
theorem EvOk.smt {e : Ev} (h : EvOk e) : SmTb e.t := ⟨h.s, h.r, h.rr⟩

section
attribute [local irreducible] Int.decLt Int.decLe Int.instDecidableEq IntKind.wrap instDecidableEqList
theorem e23 (k : Int) : VEv Tryd.prog gl 23 [.d (int k)] [] (.d (.bool (decide (1 ≤ k) && decide (k < 14)))) [] := by
  refine cp23.vev ?_
  conv => whnf
  repeat ((first | (apply guardI; · rfl) | (apply condT; · assumption) | (apply condF; · assumption) | (apply condNT; · assumption) | (apply condNF; · assumption)); conv => whnf)
  first | refine condGF (fun h => ?_) (fun h => ?_) | ((refine condI (fun h => ?_) (fun h => ?_)) <;> (try simp only [cond_true] at h))
  · conv => whnf
    repeat ((first | (apply guardI; · rfl) | (apply condT; · assumption) | (apply condF; · assumption) | (apply condNT; · assumption) | (apply condNF; · assumption)); conv => whnf)
    refine ⟨show Val.d (.bool (decide (k < 14))) = _ from ?_, rfl⟩
    rw [h]; rfl
  · conv => whnf
    repeat ((first | (apply guardI; · rfl) | (apply condT; · assumption) | (apply condF; · assumption) | (apply condNT; · assumption) | (apply condNF; · assumption)); conv => whnf)
    refine ⟨show Val.d (.bool false) = _ from ?_, rfl⟩
    rw [h]; rfl
end

theorem kinds_or (k : Int) : (k = 1 ∨ k = 2 ∨ k = 3 ∨ k = 4 ∨ k = 5 ∨ k = 6 ∨ k = 7 ∨ k = 8 ∨ k = 9 ∨ k = 10 ∨ k = 11 ∨ k = 12 ∨ k = 13) ∨ (k < 1 ∨ 13 < k) := by omega

set_option maxHeartbeats 2000000 in
theorem e8 (e : Ev) (he : EvOk e) : VEv Tryd.prog gl 8 [.d e.d] [] (.d e.only.d) [] := by
  have h24 := e24 e.t he.smt
  have h25 := e25 e.ps he.ps
  obtain ⟨k, id, n, text, pa, pi, ps, s, r, err, flag⟩ := e
  rcases kinds_or k with hk | hk
  · rcases hk with rfl | rfl | rfl | rfl | rfl | rfl | rfl | rfl | rfl | rfl | rfl | rfl | rfl
    · refine cp8.vev ?_
      conv => whnf
      repeat ((first | (apply guardI; · kernel_rfl) | (apply condT; · assumption) | (apply condF; · assumption) | (apply condNT; · assumption) | (apply condNF; · assumption)); conv => whnf)
      refine ⟨_, _, e23 1, ?_⟩
      conv => whnf
      repeat ((first | (apply guardI; · kernel_rfl) | (apply condT; · assumption) | (apply condF; · assumption) | (apply condNT; · assumption) | (apply condNF; · assumption)); conv => whnf)
      exact ⟨by kernel_rfl, by kernel_rfl⟩
    · refine cp8.vev ?_
      conv => whnf
      repeat ((first | (apply guardI; · kernel_rfl) | (apply condT; · assumption) | (apply condF; · assumption) | (apply condNT; · assumption) | (apply condNF; · assumption)); conv => whnf)
      refine ⟨_, _, e23 2, ?_⟩
      conv => whnf
      repeat ((first | (apply guardI; · kernel_rfl) | (apply condT; · assumption) | (apply condF; · assumption) | (apply condNT; · assumption) | (apply condNF; · assumption)); conv => whnf)
      refine ⟨_, _, h24, ?_⟩
      conv => whnf
      repeat ((first | (apply guardI; · kernel_rfl) | (apply condT; · assumption) | (apply condF; · assumption) | (apply condNT; · assumption) | (apply condNF; · assumption)); conv => whnf)
      exact ⟨by kernel_rfl, by kernel_rfl⟩
    · refine cp8.vev ?_
      conv => whnf
      repeat ((first | (apply guardI; · kernel_rfl) | (apply condT; · assumption) | (apply condF; · assumption) | (apply condNT; · assumption) | (apply condNF; · assumption)); conv => whnf)
      refine ⟨_, _, e23 3, ?_⟩
      conv => whnf
      repeat ((first | (apply guardI; · kernel_rfl) | (apply condT; · assumption) | (apply condF; · assumption) | (apply condNT; · assumption) | (apply condNF; · assumption)); conv => whnf)
      exact ⟨by kernel_rfl, by kernel_rfl⟩
    · refine cp8.vev ?_
      conv => whnf
      repeat ((first | (apply guardI; · kernel_rfl) | (apply condT; · assumption) | (apply condF; · assumption) | (apply condNT; · assumption) | (apply condNF; · assumption)); conv => whnf)
      refine ⟨_, _, e23 4, ?_⟩
      conv => whnf
      repeat ((first | (apply guardI; · kernel_rfl) | (apply condT; · assumption) | (apply condF; · assumption) | (apply condNT; · assumption) | (apply condNF; · assumption)); conv => whnf)
      refine ⟨_, _, h25, ?_⟩
      conv => whnf
      repeat ((first | (apply guardI; · kernel_rfl) | (apply condT; · assumption) | (apply condF; · assumption) | (apply condNT; · assumption) | (apply condNF; · assumption)); conv => whnf)
      exact ⟨by kernel_rfl, by kernel_rfl⟩
    · refine cp8.vev ?_
      conv => whnf
      repeat ((first | (apply guardI; · kernel_rfl) | (apply condT; · assumption) | (apply condF; · assumption) | (apply condNT; · assumption) | (apply condNF; · assumption)); conv => whnf)
      refine ⟨_, _, e23 5, ?_⟩
      conv => whnf
      repeat ((first | (apply guardI; · kernel_rfl) | (apply condT; · assumption) | (apply condF; · assumption) | (apply condNT; · assumption) | (apply condNF; · assumption)); conv => whnf)
      refine ⟨_, _, h25, ?_⟩
      conv => whnf
      repeat ((first | (apply guardI; · kernel_rfl) | (apply condT; · assumption) | (apply condF; · assumption) | (apply condNT; · assumption) | (apply condNF; · assumption)); conv => whnf)
      exact ⟨by kernel_rfl, by kernel_rfl⟩
    · refine cp8.vev ?_
      conv => whnf
      repeat ((first | (apply guardI; · kernel_rfl) | (apply condT; · assumption) | (apply condF; · assumption) | (apply condNT; · assumption) | (apply condNF; · assumption)); conv => whnf)
      refine ⟨_, _, e23 6, ?_⟩
      conv => whnf
      repeat ((first | (apply guardI; · kernel_rfl) | (apply condT; · assumption) | (apply condF; · assumption) | (apply condNT; · assumption) | (apply condNF; · assumption)); conv => whnf)
      exact ⟨by kernel_rfl, by kernel_rfl⟩
    · refine cp8.vev ?_
      conv => whnf
      repeat ((first | (apply guardI; · kernel_rfl) | (apply condT; · assumption) | (apply condF; · assumption) | (apply condNT; · assumption) | (apply condNF; · assumption)); conv => whnf)
      refine ⟨_, _, e23 7, ?_⟩
      conv => whnf
      repeat ((first | (apply guardI; · kernel_rfl) | (apply condT; · assumption) | (apply condF; · assumption) | (apply condNT; · assumption) | (apply condNF; · assumption)); conv => whnf)
      exact ⟨by kernel_rfl, by kernel_rfl⟩
    · refine cp8.vev ?_
      conv => whnf
      repeat ((first | (apply guardI; · kernel_rfl) | (apply condT; · assumption) | (apply condF; · assumption) | (apply condNT; · assumption) | (apply condNF; · assumption)); conv => whnf)
      refine ⟨_, _, e23 8, ?_⟩
      conv => whnf
      repeat ((first | (apply guardI; · kernel_rfl) | (apply condT; · assumption) | (apply condF; · assumption) | (apply condNT; · assumption) | (apply condNF; · assumption)); conv => whnf)
      refine ⟨_, _, h24, ?_⟩
      conv => whnf
      repeat ((first | (apply guardI; · kernel_rfl) | (apply condT; · assumption) | (apply condF; · assumption) | (apply condNT; · assumption) | (apply condNF; · assumption)); conv => whnf)
      exact ⟨by kernel_rfl, by kernel_rfl⟩
    · refine cp8.vev ?_
      conv => whnf
      repeat ((first | (apply guardI; · kernel_rfl) | (apply condT; · assumption) | (apply condF; · assumption) | (apply condNT; · assumption) | (apply condNF; · assumption)); conv => whnf)
      refine ⟨_, _, e23 9, ?_⟩
      conv => whnf
      repeat ((first | (apply guardI; · kernel_rfl) | (apply condT; · assumption) | (apply condF; · assumption) | (apply condNT; · assumption) | (apply condNF; · assumption)); conv => whnf)
      exact ⟨by kernel_rfl, by kernel_rfl⟩
    · refine cp8.vev ?_
      conv => whnf
      repeat ((first | (apply guardI; · kernel_rfl) | (apply condT; · assumption) | (apply condF; · assumption) | (apply condNT; · assumption) | (apply condNF; · assumption)); conv => whnf)
      refine ⟨_, _, e23 10, ?_⟩
      conv => whnf
      repeat ((first | (apply guardI; · kernel_rfl) | (apply condT; · assumption) | (apply condF; · assumption) | (apply condNT; · assumption) | (apply condNF; · assumption)); conv => whnf)
      exact ⟨by kernel_rfl, by kernel_rfl⟩
    · refine cp8.vev ?_
      conv => whnf
      repeat ((first | (apply guardI; · kernel_rfl) | (apply condT; · assumption) | (apply condF; · assumption) | (apply condNT; · assumption) | (apply condNF; · assumption)); conv => whnf)
      refine ⟨_, _, e23 11, ?_⟩
      conv => whnf
      repeat ((first | (apply guardI; · kernel_rfl) | (apply condT; · assumption) | (apply condF; · assumption) | (apply condNT; · assumption) | (apply condNF; · assumption)); conv => whnf)
      exact ⟨by kernel_rfl, by kernel_rfl⟩
    · refine cp8.vev ?_
      conv => whnf
      repeat ((first | (apply guardI; · kernel_rfl) | (apply condT; · assumption) | (apply condF; · assumption) | (apply condNT; · assumption) | (apply condNF; · assumption)); conv => whnf)
      refine ⟨_, _, e23 12, ?_⟩
      conv => whnf
      repeat ((first | (apply guardI; · kernel_rfl) | (apply condT; · assumption) | (apply condF; · assumption) | (apply condNT; · assumption) | (apply condNF; · assumption)); conv => whnf)
      exact ⟨by kernel_rfl, by kernel_rfl⟩
    · refine cp8.vev ?_
      conv => whnf
      repeat ((first | (apply guardI; · kernel_rfl) | (apply condT; · assumption) | (apply condF; · assumption) | (apply condNT; · assumption) | (apply condNF; · assumption)); conv => whnf)
      refine ⟨_, _, e23 13, ?_⟩
      conv => whnf
      repeat ((first | (apply guardI; · kernel_rfl) | (apply condT; · assumption) | (apply condF; · assumption) | (apply condNT; · assumption) | (apply condNF; · assumption)); conv => whnf)
      exact ⟨by kernel_rfl, by kernel_rfl⟩
  · have ho : Ev.only ⟨k, id, n, text, pa, pi, ps, s, r, err, flag⟩ = zE 0 := by
      simp only [Ev.only]
      repeat rw [if_neg (by omega)]
    rw [ho]
    have hkn : (decide (1 ≤ k) && decide (k < 14)) = false := by simp; omega
    refine cp8.vev ?_
    conv => whnf
    repeat ((first | (apply guardI; · kernel_rfl) | (apply condT; · assumption) | (apply condF; · assumption) | (apply condNT; · assumption) | (apply condNF; · assumption)); conv => whnf)
    refine ⟨_, _, e23 k, ?_⟩
    conv => whnf
    repeat ((first | (apply guardI; · kernel_rfl) | (apply condT; · assumption) | (apply condF; · assumption) | (apply condNT; · assumption) | (apply condNF; · assumption)); conv => whnf)
    exact ⟨by kernel_rfl, by kernel_rfl⟩

set_option maxHeartbeats 2000000 in
theorem e10 (e : Ev) : VEv Tryd.prog gl 10 [.d e.d] [] (.d e.only.d) [] := by
  obtain ⟨k, id, n, text, pa, pi, ps, s, r, err, flag⟩ := e
  rcases kinds_or k with hk | hk
  · rcases hk with rfl | rfl | rfl | rfl | rfl | rfl | rfl | rfl | rfl | rfl | rfl | rfl | rfl
    · refine cp10.vev ?_
      conv => whnf
      repeat ((first | (apply guardI; · kernel_rfl) | (apply condT; · assumption) | (apply condF; · assumption) | (apply condNT; · assumption) | (apply condNF; · assumption)); conv => whnf)
      exact ⟨by kernel_rfl, by kernel_rfl⟩
    · refine cp10.vev ?_
      conv => whnf
      repeat ((first | (apply guardI; · kernel_rfl) | (apply condT; · assumption) | (apply condF; · assumption) | (apply condNT; · assumption) | (apply condNF; · assumption)); conv => whnf)
      exact ⟨by kernel_rfl, by kernel_rfl⟩
    · refine cp10.vev ?_
      conv => whnf
      repeat ((first | (apply guardI; · kernel_rfl) | (apply condT; · assumption) | (apply condF; · assumption) | (apply condNT; · assumption) | (apply condNF; · assumption)); conv => whnf)
      exact ⟨by kernel_rfl, by kernel_rfl⟩
    · refine cp10.vev ?_
      conv => whnf
      repeat ((first | (apply guardI; · kernel_rfl) | (apply condT; · assumption) | (apply condF; · assumption) | (apply condNT; · assumption) | (apply condNF; · assumption)); conv => whnf)
      exact ⟨by kernel_rfl, by kernel_rfl⟩
    · refine cp10.vev ?_
      conv => whnf
      repeat ((first | (apply guardI; · kernel_rfl) | (apply condT; · assumption) | (apply condF; · assumption) | (apply condNT; · assumption) | (apply condNF; · assumption)); conv => whnf)
      exact ⟨by kernel_rfl, by kernel_rfl⟩
    · refine cp10.vev ?_
      conv => whnf
      repeat ((first | (apply guardI; · kernel_rfl) | (apply condT; · assumption) | (apply condF; · assumption) | (apply condNT; · assumption) | (apply condNF; · assumption)); conv => whnf)
      exact ⟨by kernel_rfl, by kernel_rfl⟩
    · refine cp10.vev ?_
      conv => whnf
      repeat ((first | (apply guardI; · kernel_rfl) | (apply condT; · assumption) | (apply condF; · assumption) | (apply condNT; · assumption) | (apply condNF; · assumption)); conv => whnf)
      exact ⟨by kernel_rfl, by kernel_rfl⟩
    · refine cp10.vev ?_
      conv => whnf
      repeat ((first | (apply guardI; · kernel_rfl) | (apply condT; · assumption) | (apply condF; · assumption) | (apply condNT; · assumption) | (apply condNF; · assumption)); conv => whnf)
      exact ⟨by kernel_rfl, by kernel_rfl⟩
    · refine cp10.vev ?_
      conv => whnf
      repeat ((first | (apply guardI; · kernel_rfl) | (apply condT; · assumption) | (apply condF; · assumption) | (apply condNT; · assumption) | (apply condNF; · assumption)); conv => whnf)
      exact ⟨by kernel_rfl, by kernel_rfl⟩
    · refine cp10.vev ?_
      conv => whnf
      repeat ((first | (apply guardI; · kernel_rfl) | (apply condT; · assumption) | (apply condF; · assumption) | (apply condNT; · assumption) | (apply condNF; · assumption)); conv => whnf)
      exact ⟨by kernel_rfl, by kernel_rfl⟩
    · refine cp10.vev ?_
      conv => whnf
      repeat ((first | (apply guardI; · kernel_rfl) | (apply condT; · assumption) | (apply condF; · assumption) | (apply condNT; · assumption) | (apply condNF; · assumption)); conv => whnf)
      exact ⟨by kernel_rfl, by kernel_rfl⟩
    · refine cp10.vev ?_
      conv => whnf
      repeat ((first | (apply guardI; · kernel_rfl) | (apply condT; · assumption) | (apply condF; · assumption) | (apply condNT; · assumption) | (apply condNF; · assumption)); conv => whnf)
      exact ⟨by kernel_rfl, by kernel_rfl⟩
    · refine cp10.vev ?_
      conv => whnf
      repeat ((first | (apply guardI; · kernel_rfl) | (apply condT; · assumption) | (apply condF; · assumption) | (apply condNT; · assumption) | (apply condNF; · assumption)); conv => whnf)
      exact ⟨by kernel_rfl, by kernel_rfl⟩
  · have ho : Ev.only ⟨k, id, n, text, pa, pi, ps, s, r, err, flag⟩ = zE 0 := by
      simp only [Ev.only]
      repeat rw [if_neg (by omega)]
    rw [ho]
    have k1 : decide (k = 1) = false := by simp; omega
    have k2 : decide (k = 2) = false := by simp; omega
    have k3 : decide (k = 3) = false := by simp; omega
    have k4 : decide (k = 4) = false := by simp; omega
    have k5 : decide (k = 5) = false := by simp; omega
    have k6 : decide (k = 6) = false := by simp; omega
    have k7 : decide (k = 7) = false := by simp; omega
    have k8 : decide (k = 8) = false := by simp; omega
    have k9 : decide (k = 9) = false := by simp; omega
    have k10 : decide (k = 10) = false := by simp; omega
    have k11 : decide (k = 11) = false := by simp; omega
    have k12 : decide (k = 12) = false := by simp; omega
    have k13 : decide (k = 13) = false := by simp; omega
    refine cp10.vev ?_
    conv => whnf
    repeat ((first | (apply guardI; · kernel_rfl) | (apply condT; · assumption) | (apply condF; · assumption) | (apply condNT; · assumption) | (apply condNF; · assumption)); conv => whnf)
    exact ⟨by kernel_rfl, by kernel_rfl⟩

end Go.Proofs.YthalcnhgnadmlaaDoor
