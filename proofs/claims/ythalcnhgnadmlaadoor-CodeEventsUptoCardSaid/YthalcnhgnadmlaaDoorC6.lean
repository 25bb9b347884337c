/- Events: equality; what is right. Conditions: none. -/
import Derived.Test.YthalcnhgnadmlaaDoorC5
set_option maxRecDepth 100000
namespace Go.Proofs.YthalcnhgnadmlaaDoor
open Go Go.Vm
section
attribute [local irreducible] Int.decLt Int.decLe Int.instDecidableEq IntKind.wrap instDecidableEqList

theorem ev_eq {a b : Ev} (h0 : a.k = b.k) (h1 : a.id = b.id) (h2 : a.n = b.n) (h3 : a.text = b.text) (h4 : a.pa = b.pa ∧ a.pi = b.pi) (h5 : a.ps = b.ps) (h6 : a.t = b.t) (h7 : a.err = b.err) : decide (a = b) = (a.flag == b.flag) := by
  obtain ⟨k, id, n, text, pa, pi, ps, s, r, err, flag⟩ := a
  obtain ⟨k2, id2, n2, text2, pa2, pi2, ps2, s2, r2, err2, flag2⟩ := b
  simp only [Ev.t, Tb.mk.injEq] at h0 h1 h2 h3 h4 h5 h6 h7
  obtain ⟨rfl, rfl⟩ := h4
  obtain ⟨rfl, rfl⟩ := h6
  subst h0 h1 h2 h3 h5 h7
  cases flag <;> cases flag2 <;> simp

theorem e13 (a b : Ev) (ha : EvOk a) : VEv Tryd.prog gl 13 [.d a.d, .d b.d] [] (.d (.bool (decide (a = b)))) [] := by
  have hps : a.ps.length < BIG := sm_big ha.ps
  have hs : a.t.s.length < BIG := sm_big ha.s
  have hr : RowsOk a.t.r := ha.tb.2
  refine cp13.vev ?_
  conv => whnf
  repeat ((first | (apply guardI; · rfl) | (apply condT; · assumption) | (apply condF; · assumption) | (apply condNT; · assumption) | (apply condNF; · assumption)); conv => whnf)
  first | refine condGF (fun h0 => ?_) (fun h0 => ?_) | ((refine condI (fun h0 => ?_) (fun h0 => ?_)) <;> (try simp only [cond_true] at h0))
  rotate_left
  · conv => whnf
    repeat ((first | (apply guardI; · rfl) | (apply condT; · assumption) | (apply condF; · assumption) | (apply condNT; · assumption) | (apply condNF; · assumption)); conv => whnf)
    refine ⟨show Val.d (.bool false) = _ from ?_, rfl⟩
    have hne : a ≠ b := by rintro rfl; simp at h0
    simp [hne]
  conv => whnf
  repeat ((first | (apply guardI; · rfl) | (apply condT; · assumption) | (apply condF; · assumption) | (apply condNT; · assumption) | (apply condNF; · assumption)); conv => whnf)
  first | refine condGF (fun h1 => ?_) (fun h1 => ?_) | ((refine condI (fun h1 => ?_) (fun h1 => ?_)) <;> (try simp only [cond_true] at h1))
  rotate_left
  · conv => whnf
    repeat ((first | (apply guardI; · rfl) | (apply condT; · assumption) | (apply condF; · assumption) | (apply condNT; · assumption) | (apply condNF; · assumption)); conv => whnf)
    refine ⟨show Val.d (.bool false) = _ from ?_, rfl⟩
    have hne : a ≠ b := by rintro rfl; simp at h1
    simp [hne]
  conv => whnf
  repeat ((first | (apply guardI; · rfl) | (apply condT; · assumption) | (apply condF; · assumption) | (apply condNT; · assumption) | (apply condNF; · assumption)); conv => whnf)
  first | refine condGF (fun h2 => ?_) (fun h2 => ?_) | ((refine condI (fun h2 => ?_) (fun h2 => ?_)) <;> (try simp only [cond_true] at h2))
  rotate_left
  · conv => whnf
    repeat ((first | (apply guardI; · rfl) | (apply condT; · assumption) | (apply condF; · assumption) | (apply condNT; · assumption) | (apply condNF; · assumption)); conv => whnf)
    refine ⟨show Val.d (.bool false) = _ from ?_, rfl⟩
    have hne : a ≠ b := by rintro rfl; simp at h2
    simp [hne]
  conv => whnf
  repeat ((first | (apply guardI; · rfl) | (apply condT; · assumption) | (apply condF; · assumption) | (apply condNT; · assumption) | (apply condNF; · assumption)); conv => whnf)
  first | refine condGF (fun h3 => ?_) (fun h3 => ?_) | ((refine condI (fun h3 => ?_) (fun h3 => ?_)) <;> (try simp only [cond_true] at h3))
  rotate_left
  · conv => whnf
    repeat ((first | (apply guardI; · rfl) | (apply condT; · assumption) | (apply condF; · assumption) | (apply condNT; · assumption) | (apply condNF; · assumption)); conv => whnf)
    refine ⟨show Val.d (.bool false) = _ from ?_, rfl⟩
    have hne : a ≠ b := by rintro rfl; simp at h3
    simp [hne]
  conv => whnf
  repeat ((first | (apply guardI; · rfl) | (apply condT; · assumption) | (apply condF; · assumption) | (apply condNT; · assumption) | (apply condNF; · assumption)); conv => whnf)
  first | refine condGF (fun h4 => ?_) (fun h4 => ?_) | ((refine condI (fun h4 => ?_) (fun h4 => ?_)) <;> (try simp only [cond_true] at h4))
  rotate_left
  · conv => whnf
    repeat ((first | (apply guardI; · rfl) | (apply condT; · assumption) | (apply condF; · assumption) | (apply condNT; · assumption) | (apply condNF; · assumption)); conv => whnf)
    refine ⟨show Val.d (.bool false) = _ from ?_, rfl⟩
    have hne : a ≠ b := by rintro rfl; simp at h4
    simp [hne]
  conv => whnf
  repeat ((first | (apply guardI; · rfl) | (apply condT; · assumption) | (apply condF; · assumption) | (apply condNT; · assumption) | (apply condNF; · assumption)); conv => whnf)
  refine ⟨_, _, e28 a.ps b.ps hps, ?_⟩
  conv => whnf
  repeat ((first | (apply guardI; · rfl) | (apply condT; · assumption) | (apply condF; · assumption) | (apply condNT; · assumption) | (apply condNF; · assumption)); conv => whnf)
  first | refine condGF (fun h5 => ?_) (fun h5 => ?_) | ((refine condI (fun h5 => ?_) (fun h5 => ?_)) <;> (try simp only [cond_true] at h5))
  rotate_left
  · conv => whnf
    repeat ((first | (apply guardI; · rfl) | (apply condT; · assumption) | (apply condF; · assumption) | (apply condNT; · assumption) | (apply condNF; · assumption)); conv => whnf)
    refine ⟨show Val.d (.bool false) = _ from ?_, rfl⟩
    have hne : a ≠ b := by rintro rfl; simp at h5
    simp [hne]
  conv => whnf
  repeat ((first | (apply guardI; · rfl) | (apply condT; · assumption) | (apply condF; · assumption) | (apply condNT; · assumption) | (apply condNF; · assumption)); conv => whnf)
  refine ⟨_, _, e26 a.t b.t hs hr, ?_⟩
  conv => whnf
  repeat ((first | (apply guardI; · rfl) | (apply condT; · assumption) | (apply condF; · assumption) | (apply condNT; · assumption) | (apply condNF; · assumption)); conv => whnf)
  first | refine condGF (fun h6 => ?_) (fun h6 => ?_) | ((refine condI (fun h6 => ?_) (fun h6 => ?_)) <;> (try simp only [cond_true] at h6))
  rotate_left
  · conv => whnf
    repeat ((first | (apply guardI; · rfl) | (apply condT; · assumption) | (apply condF; · assumption) | (apply condNT; · assumption) | (apply condNF; · assumption)); conv => whnf)
    refine ⟨show Val.d (.bool false) = _ from ?_, rfl⟩
    have hne : a ≠ b := by rintro rfl; simp at h6
    simp [hne]
  conv => whnf
  repeat ((first | (apply guardI; · rfl) | (apply condT; · assumption) | (apply condF; · assumption) | (apply condNT; · assumption) | (apply condNF; · assumption)); conv => whnf)
  first | refine condGF (fun h7 => ?_) (fun h7 => ?_) | ((refine condI (fun h7 => ?_) (fun h7 => ?_)) <;> (try simp only [cond_true] at h7))
  rotate_left
  · conv => whnf
    repeat ((first | (apply guardI; · rfl) | (apply condT; · assumption) | (apply condF; · assumption) | (apply condNT; · assumption) | (apply condNF; · assumption)); conv => whnf)
    refine ⟨show Val.d (.bool false) = _ from ?_, rfl⟩
    have hne : a ≠ b := by rintro rfl; simp at h7
    simp [hne]
  conv => whnf
  repeat ((first | (apply guardI; · rfl) | (apply condT; · assumption) | (apply condF; · assumption) | (apply condNT; · assumption) | (apply condNF; · assumption)); conv => whnf)
  refine ⟨show Val.d (.bool ((a.flag == b.flag) && true)) = _ from ?_, rfl⟩
  rw [ev_eq (of_decide_eq_true h0) (of_decide_eq_true h1) (of_decide_eq_true h2) (of_decide_eq_true h3) (by simpa using h4) (of_decide_eq_true h5) (of_decide_eq_true h6) (of_decide_eq_true h7), Bool.and_true]

def evC (e : Ev) : List Val := [.d (int e.k), .d (int e.id), .d (int e.n), .d (.str e.text), .d (.str e.pa), .d (int e.pi), .d (psD e.ps), .d (sD e.s), .d (rsD e.r), .d (int e.err), .d (.bool e.flag)]
def st9 (a b : Ev) (n : Int) : St := mkSB [(2, .lref 2 0), (3, .lref 3 0), (15, .d (int a.ps.length)), (16, .d (int n))] [(2, evC a), (3, evC b)] []
theorem e9 (a b : Ev) (ha : EvOk a) : VEv Tryd.prog gl 9 [.d a.d, .d b.d] [] (.d (.bool (decide (a = b)))) [] := by
  have hps : a.ps.length < BIG := sm_big ha.ps
  have hs : a.t.s.length < BIG := sm_big ha.s
  have hr : RowsOk a.t.r := ha.tb.2
  refine cp9.vev ?_
  conv => whnf
  repeat ((first | (apply guardI; · rfl) | (apply condT; · assumption) | (apply condF; · assumption) | (apply condNT; · assumption) | (apply condNF; · assumption)); conv => whnf)
  first | refine condGF (fun h => ?_) (fun h => ?_) | ((refine condI (fun h => ?_) (fun h => ?_)) <;> (try simp only [cond_true] at h))
  · conv => whnf
    repeat ((first | (apply guardI; · rfl) | (apply condT; · assumption) | (apply condF; · assumption) | (apply condNT; · assumption) | (apply condNF; · assumption)); conv => whnf)
    have hl : a.ps.length = b.ps.length := by simp at h; omega
    refine ⟨fun n st => ∃ i : Nat, i ≤ a.ps.length ∧ n = a.ps.length - i ∧ (∀ j (h1 : j < a.ps.length) (h2 : j < b.ps.length), j < i → a.ps[j] = b.ps[j]) ∧ st = st9 a b i, a.ps.length, ⟨0, by omega, rfl, by omega, ?_⟩, ?_⟩
    · exact congrArg (fun k => (mkSB [(2, .lref 2 0), (3, .lref 3 0), (15, .d (int k)), (16, .d (int 0))] [(2, evC a), (3, evC b)] [] : St)) (by simp)
    rintro _ _ ⟨i, hi, rfl, hall, rfl⟩
    conv => whnf
    repeat ((first | (apply guardI; · rfl) | (apply condT; · assumption) | (apply condF; · assumption) | (apply condNT; · assumption) | (apply condNF; · assumption)); conv => whnf)
    first | refine condGF (fun hi2 => ?_) (fun hi2 => ?_) | ((refine condI (fun hi2 => ?_) (fun hi2 => ?_)) <;> (try simp only [cond_true] at hi2))
    · conv => whnf
      repeat ((first | (apply guardI; · rfl) | (apply condT; · assumption) | (apply condF; · assumption) | (apply condNT; · assumption) | (apply condNF; · assumption)); conv => whnf)
      have h' : i < a.ps.length := by simpa using hi2
      have h'' : i < b.ps.length := by omega
      refine ⟨by simp [h'], ?_⟩
      rw [getD_map (f := Pt.d) (d := .nilp) h']
      conv => whnf
      repeat ((first | (apply guardI; · rfl) | (apply condT; · assumption) | (apply condF; · assumption) | (apply condNT; · assumption) | (apply condNF; · assumption)); conv => whnf)
      refine ⟨by simp [h''], ?_⟩
      rw [getD_map (f := Pt.d) (d := .nilp) h'']
      conv => whnf
      repeat ((first | (apply guardI; · rfl) | (apply condT; · assumption) | (apply condF; · assumption) | (apply condNT; · assumption) | (apply condNF; · assumption)); conv => whnf)
      first | refine condGF (fun h3 => ?_) (fun h3 => ?_) | ((refine condI (fun h3 => ?_) (fun h3 => ?_)) <;> (try simp only [cond_true] at h3))
      · conv => whnf
        repeat ((first | (apply guardI; · rfl) | (apply condT; · assumption) | (apply condF; · assumption) | (apply condNT; · assumption) | (apply condNF; · assumption)); conv => whnf)
        refine ⟨a.ps.length - (i + 1), by omega, i + 1, by omega, rfl, ?_, congrArg (st9 a b) (wrapB h' hps)⟩
        intro j h1 h2 hj
        by_cases hje : j = i
        · subst hje
          have h3 : (decide (a.ps[j].a = b.ps[j].a) && (decide (a.ps[j].i = b.ps[j].i) && true)) = true := h3
          generalize a.ps[j] = p at h3 ⊢
          generalize b.ps[j] = q at h3 ⊢
          cases p; cases q
          simpa using h3
        · exact hall j h1 h2 (by omega)
      · conv => whnf
        repeat ((first | (apply guardI; · rfl) | (apply condT; · assumption) | (apply condF; · assumption) | (apply condNT; · assumption) | (apply condNF; · assumption)); conv => whnf)
        have h3 : (decide (a.ps[i].a = b.ps[i].a) && (decide (a.ps[i].i = b.ps[i].i) && true)) = false := h3
        refine ⟨show Val.d (.bool false) = _ from ?_, rfl⟩
        have hne : a ≠ b := by
          intro hab
          subst hab
          simp at h3
        simp [hne]
    · have h5 : a.ps = b.ps := List.ext_getElem hl fun j h1 h2' => hall j h1 h2' (by simp at hi2; omega)
      conv => whnf
      repeat ((first | (apply guardI; · rfl) | (apply condT; · assumption) | (apply condF; · assumption) | (apply condNT; · assumption) | (apply condNF; · assumption)); conv => whnf)
      first | refine condGF (fun h0 => ?_) (fun h0 => ?_) | ((refine condI (fun h0 => ?_) (fun h0 => ?_)) <;> (try simp only [cond_true] at h0))
      rotate_left
      · conv => whnf
        repeat ((first | (apply guardI; · rfl) | (apply condT; · assumption) | (apply condF; · assumption) | (apply condNT; · assumption) | (apply condNF; · assumption)); conv => whnf)
        refine ⟨show Val.d (.bool false) = _ from ?_, rfl⟩
        have hne : a ≠ b := by rintro rfl; simp at h0
        simp [hne]
      conv => whnf
      repeat ((first | (apply guardI; · rfl) | (apply condT; · assumption) | (apply condF; · assumption) | (apply condNT; · assumption) | (apply condNF; · assumption)); conv => whnf)
      first | refine condGF (fun h1 => ?_) (fun h1 => ?_) | ((refine condI (fun h1 => ?_) (fun h1 => ?_)) <;> (try simp only [cond_true] at h1))
      rotate_left
      · conv => whnf
        repeat ((first | (apply guardI; · rfl) | (apply condT; · assumption) | (apply condF; · assumption) | (apply condNT; · assumption) | (apply condNF; · assumption)); conv => whnf)
        refine ⟨show Val.d (.bool false) = _ from ?_, rfl⟩
        have hne : a ≠ b := by rintro rfl; simp at h1
        simp [hne]
      conv => whnf
      repeat ((first | (apply guardI; · rfl) | (apply condT; · assumption) | (apply condF; · assumption) | (apply condNT; · assumption) | (apply condNF; · assumption)); conv => whnf)
      first | refine condGF (fun h2 => ?_) (fun h2 => ?_) | ((refine condI (fun h2 => ?_) (fun h2 => ?_)) <;> (try simp only [cond_true] at h2))
      rotate_left
      · conv => whnf
        repeat ((first | (apply guardI; · rfl) | (apply condT; · assumption) | (apply condF; · assumption) | (apply condNT; · assumption) | (apply condNF; · assumption)); conv => whnf)
        refine ⟨show Val.d (.bool false) = _ from ?_, rfl⟩
        have hne : a ≠ b := by rintro rfl; simp at h2
        simp [hne]
      conv => whnf
      repeat ((first | (apply guardI; · rfl) | (apply condT; · assumption) | (apply condF; · assumption) | (apply condNT; · assumption) | (apply condNF; · assumption)); conv => whnf)
      first | refine condGF (fun h3 => ?_) (fun h3 => ?_) | ((refine condI (fun h3 => ?_) (fun h3 => ?_)) <;> (try simp only [cond_true] at h3))
      rotate_left
      · conv => whnf
        repeat ((first | (apply guardI; · rfl) | (apply condT; · assumption) | (apply condF; · assumption) | (apply condNT; · assumption) | (apply condNF; · assumption)); conv => whnf)
        refine ⟨show Val.d (.bool false) = _ from ?_, rfl⟩
        have hne : a ≠ b := by rintro rfl; simp at h3
        simp [hne]
      conv => whnf
      repeat ((first | (apply guardI; · rfl) | (apply condT; · assumption) | (apply condF; · assumption) | (apply condNT; · assumption) | (apply condNF; · assumption)); conv => whnf)
      first | refine condGF (fun h4 => ?_) (fun h4 => ?_) | ((refine condI (fun h4 => ?_) (fun h4 => ?_)) <;> (try simp only [cond_true] at h4))
      rotate_left
      · conv => whnf
        repeat ((first | (apply guardI; · rfl) | (apply condT; · assumption) | (apply condF; · assumption) | (apply condNT; · assumption) | (apply condNF; · assumption)); conv => whnf)
        refine ⟨show Val.d (.bool false) = _ from ?_, rfl⟩
        have hne : a ≠ b := by rintro rfl; simp at h4
        simp [hne]
      conv => whnf
      repeat ((first | (apply guardI; · rfl) | (apply condT; · assumption) | (apply condF; · assumption) | (apply condNT; · assumption) | (apply condNF; · assumption)); conv => whnf)
      refine ⟨_, _, e26 a.t b.t hs hr, ?_⟩
      conv => whnf
      repeat ((first | (apply guardI; · rfl) | (apply condT; · assumption) | (apply condF; · assumption) | (apply condNT; · assumption) | (apply condNF; · assumption)); conv => whnf)
      first | refine condGF (fun h6 => ?_) (fun h6 => ?_) | ((refine condI (fun h6 => ?_) (fun h6 => ?_)) <;> (try simp only [cond_true] at h6))
      rotate_left
      · conv => whnf
        repeat ((first | (apply guardI; · rfl) | (apply condT; · assumption) | (apply condF; · assumption) | (apply condNT; · assumption) | (apply condNF; · assumption)); conv => whnf)
        refine ⟨show Val.d (.bool false) = _ from ?_, rfl⟩
        have hne : a ≠ b := by rintro rfl; simp at h6
        simp [hne]
      conv => whnf
      repeat ((first | (apply guardI; · rfl) | (apply condT; · assumption) | (apply condF; · assumption) | (apply condNT; · assumption) | (apply condNF; · assumption)); conv => whnf)
      first | refine condGF (fun h7 => ?_) (fun h7 => ?_) | ((refine condI (fun h7 => ?_) (fun h7 => ?_)) <;> (try simp only [cond_true] at h7))
      rotate_left
      · conv => whnf
        repeat ((first | (apply guardI; · rfl) | (apply condT; · assumption) | (apply condF; · assumption) | (apply condNT; · assumption) | (apply condNF; · assumption)); conv => whnf)
        refine ⟨show Val.d (.bool false) = _ from ?_, rfl⟩
        have hne : a ≠ b := by rintro rfl; simp at h7
        simp [hne]
      conv => whnf
      repeat ((first | (apply guardI; · rfl) | (apply condT; · assumption) | (apply condF; · assumption) | (apply condNT; · assumption) | (apply condNF; · assumption)); conv => whnf)
      refine ⟨show Val.d (.bool ((a.flag == b.flag) && true)) = _ from ?_, rfl⟩
      rw [ev_eq (of_decide_eq_true h0) (of_decide_eq_true h1) (of_decide_eq_true h2) (of_decide_eq_true h3) (by simpa using h4) h5 (of_decide_eq_true h6) (of_decide_eq_true h7), Bool.and_true]
  · conv => whnf
    repeat ((first | (apply guardI; · rfl) | (apply condT; · assumption) | (apply condF; · assumption) | (apply condNT; · assumption) | (apply condNF; · assumption)); conv => whnf)
    refine ⟨show Val.d (.bool false) = _ from ?_, rfl⟩
    have hne : a ≠ b := by rintro rfl; simp at h
    simp [hne]
end
end Go.Proofs.YthalcnhgnadmlaaDoor
