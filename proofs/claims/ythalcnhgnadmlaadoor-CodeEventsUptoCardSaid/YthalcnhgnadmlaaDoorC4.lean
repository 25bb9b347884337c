/- What the checks of tables compute: order, equality, copies. Conditions: none. -/
import Derived.Test.YthalcnhgnadmlaaDoorC3
set_option maxRecDepth 100000
namespace Go.Proofs.YthalcnhgnadmlaaDoor
open Go Go.Vm
attribute [local irreducible] Int.decLt Int.decLe Int.instDecidableEq IntKind.wrap instDecidableEqList

abbrev SM : Nat := 4294967296

def st54 (l : List (List Va)) (n : Int) : St := mkS [(0, .d (rsD l)), (1, .d (.fn 55)), (5, .d (int n))] []
theorem e54 (l : List (List Va)) (hl : RowsOk l) : ∃ b : Bool, True ∧ VEv Tryd.prog gl 54 [.d (rsD l), .d (.fn 55)] [] (.d (.bool b)) [] := by
  refine tot (fun b : Bool => .d (.bool b)) _ cp54 ?_
  conv => whnf
  repeat ((first | (apply guardI; · rfl) | (apply condT; · assumption) | (apply condF; · assumption) | (apply condNT; · assumption) | (apply condNF; · assumption)); conv => whnf)
  have hlen : l.length < 4611686018427387904 := hl.1
  refine ⟨fun n st => ∃ x : Int, -1 ≤ x ∧ x < l.length ∧ n = x.toNat ∧ st = st54 l x, ((l.length : Int) - 1).toNat, ⟨(l.length : Int) - 1, by omega, by omega, rfl, ?_⟩, ?_⟩
  · exact congrArg (st54 l) (by simp only [List.length_map]; exact wrapI (by omega) (by omega))
  rintro _ _ ⟨x, hx0, hx, rfl, rfl⟩
  conv => whnf
  repeat ((first | (apply guardI; · rfl) | (apply condT; · assumption) | (apply condF; · assumption) | (apply condNT; · assumption) | (apply condNF; · assumption)); conv => whnf)
  first | refine condGF (fun h => ?_) (fun h => ?_) | ((refine condI (fun h => ?_) (fun h => ?_)) <;> (try simp only [cond_true] at h))
  · conv => whnf
    repeat ((first | (apply guardI; · rfl) | (apply condT; · assumption) | (apply condF; · assumption) | (apply condNT; · assumption) | (apply condNF; · assumption)); conv => whnf)
    have hx1 : 0 < x := by simpa using h
    have hn : x.toNat < l.length := by omega
    have hn2 : (x - 1).toNat < l.length := by omega
    have hw : IntKind.i64.wrap (x - 1) = x - 1 := wrapI (by omega) (by omega)
    refine ⟨by simp; omega, ?_⟩
    rw [getD_mapI (f := rD) (d := .nilp) hn]
    conv => whnf
    repeat ((first | (apply guardI; · rfl) | (apply condT; · assumption) | (apply condF; · assumption) | (apply condNT; · assumption) | (apply condNF; · assumption)); conv => whnf)
    refine ⟨by rw [hw]; simp; omega, ?_⟩
    rw [hw, getD_mapI (f := rD) (d := .nilp) hn2]
    conv => whnf
    repeat ((first | (apply guardI; · rfl) | (apply condT; · assumption) | (apply condF; · assumption) | (apply condNT; · assumption) | (apply condNF; · assumption)); conv => whnf)
    obtain ⟨e, _, he⟩ := e55 l[x.toNat] l[(x - 1).toNat] (hl.2 _ (List.getElem_mem hn)).1 (hl.2 _ (List.getElem_mem hn2)).1
    refine ⟨_, _, he, ?_⟩
    conv => whnf
    repeat ((first | (apply guardI; · rfl) | (apply condT; · assumption) | (apply condF; · assumption) | (apply condNT; · assumption) | (apply condNF; · assumption)); conv => whnf)
    first | refine condGF (fun h2 => ?_) (fun h2 => ?_) | ((refine condI (fun h2 => ?_) (fun h2 => ?_)) <;> (try simp only [cond_true] at h2))
    · conv => whnf
      repeat ((first | (apply guardI; · rfl) | (apply condT; · assumption) | (apply condF; · assumption) | (apply condNT; · assumption) | (apply condNF; · assumption)); conv => whnf)
      exact ⟨⟨_, trivial, rfl⟩, rfl⟩
    · conv => whnf
      repeat ((first | (apply guardI; · rfl) | (apply condT; · assumption) | (apply condF; · assumption) | (apply condNT; · assumption) | (apply condNF; · assumption)); conv => whnf)
      exact ⟨(x - 1).toNat, by omega, x - 1, by omega, by omega, rfl, congrArg (st54 l) hw⟩
  · conv => whnf
    repeat ((first | (apply guardI; · rfl) | (apply condT; · assumption) | (apply condF; · assumption) | (apply condNT; · assumption) | (apply condNF; · assumption)); conv => whnf)
    exact ⟨⟨_, trivial, rfl⟩, rfl⟩

def TbOk (t : Tb) : Prop := NamesOk t.s ∧ RowsOk t.r

theorem e27 (t : Tb) (ht : TbOk t) : ∃ e : Int, (e = 0 → ∀ r, r ∈ t.r → FitP t.s r) ∧ VEv Tryd.prog gl 27 [.d t.d] [] (.d (int e)) [] := by
  refine tot (fun e : Int => .d (int e)) _ cp27 ?_
  obtain ⟨e, h1, he⟩ := e53 t.s t.r ht.1 ht.2
  obtain ⟨b, _, hb⟩ := e54 t.r ht.2
  conv => whnf
  repeat ((first | (apply guardI; · rfl) | (apply condT; · assumption) | (apply condF; · assumption) | (apply condNT; · assumption) | (apply condNF; · assumption)); conv => whnf)
  refine ⟨_, _, he, ?_⟩
  conv => whnf
  repeat ((first | (apply guardI; · rfl) | (apply condT; · assumption) | (apply condF; · assumption) | (apply condNT; · assumption) | (apply condNF; · assumption)); conv => whnf)
  first | refine condGF (fun h => ?_) (fun h => ?_) | ((refine condI (fun h => ?_) (fun h => ?_)) <;> (try simp only [cond_true] at h))
  · conv => whnf
    repeat ((first | (apply guardI; · rfl) | (apply condT; · assumption) | (apply condF; · assumption) | (apply condNT; · assumption) | (apply condNF; · assumption)); conv => whnf)
    refine ⟨_, _, hb, ?_⟩
    conv => whnf
    repeat ((first | (apply guardI; · rfl) | (apply condT; · assumption) | (apply condF; · assumption) | (apply condNT; · assumption) | (apply condNF; · assumption)); conv => whnf)
    cases b
    · conv => whnf
      repeat ((first | (apply guardI; · rfl) | (apply condT; · assumption) | (apply condF; · assumption) | (apply condNT; · assumption) | (apply condNF; · assumption)); conv => whnf)
      exact ⟨⟨20, by omega, rfl⟩, rfl⟩
    · conv => whnf
      repeat ((first | (apply guardI; · rfl) | (apply condT; · assumption) | (apply condF; · assumption) | (apply condNT; · assumption) | (apply condNF; · assumption)); conv => whnf)
      exact ⟨⟨0, fun _ => h1 (of_decide_eq_true h), rfl⟩, rfl⟩
  · conv => whnf
    repeat ((first | (apply guardI; · rfl) | (apply condT; · assumption) | (apply condF; · assumption) | (apply condNT; · assumption) | (apply condNF; · assumption)); conv => whnf)
    exact ⟨⟨e, fun h0 => absurd h0 (of_decide_eq_false h), rfl⟩, rfl⟩

/-- A table's check. -/
noncomputable def chk (t : Tb) : Int := Classical.epsilon fun e => (e = 0 → ∀ r, r ∈ t.r → FitP t.s r) ∧ VEv Tryd.prog gl 27 [.d t.d] [] (.d (int e)) []
theorem chk_ok {t : Tb} (ht : TbOk t) : (chk t = 0 → ∀ r, r ∈ t.r → FitP t.s r) ∧ VEv Tryd.prog gl 27 [.d t.d] [] (.d (int (chk t))) [] :=
  Classical.epsilon_spec (e27 t ht)


def st28 (a b : List Pt) (n : Int) : St := mkS [(0, .d (psD a)), (1, .d (psD b)), (12, .d (int a.length)), (13, .d (int n))] []
theorem e28 (a b : List Pt) (ha : a.length < BIG) : VEv Tryd.prog gl 28 [.d (psD a), .d (psD b)] [] (.d (.bool (decide (a = b)))) [] := by
  refine cp28.vev ?_
  conv => whnf
  repeat ((first | (apply guardI; · rfl) | (apply condT; · assumption) | (apply condF; · assumption) | (apply condNT; · assumption) | (apply condNF; · assumption)); conv => whnf)
  first | refine condGF (fun h => ?_) (fun h => ?_) | ((refine condI (fun h => ?_) (fun h => ?_)) <;> (try simp only [cond_true] at h))
  · conv => whnf
    repeat ((first | (apply guardI; · rfl) | (apply condT; · assumption) | (apply condF; · assumption) | (apply condNT; · assumption) | (apply condNF; · assumption)); conv => whnf)
    have hl : a.length = b.length := by simp at h; omega
    refine ⟨fun n st => ∃ i : Nat, i ≤ a.length ∧ n = a.length - i ∧ (∀ j (h1 : j < a.length) (h2 : j < b.length), j < i → a[j] = b[j]) ∧ st = st28 a b i, a.length, ⟨0, by omega, rfl, by omega, ?_⟩, ?_⟩
    · exact congrArg (fun k => (mkS [(0, .d (psD a)), (1, .d (psD b)), (12, .d (int k)), (13, .d (int 0))] [] : St)) (by simp)
    rintro _ _ ⟨i, hi, rfl, hall, rfl⟩
    conv => whnf
    repeat ((first | (apply guardI; · rfl) | (apply condT; · assumption) | (apply condF; · assumption) | (apply condNT; · assumption) | (apply condNF; · assumption)); conv => whnf)
    first | refine condGF (fun h2 => ?_) (fun h2 => ?_) | ((refine condI (fun h2 => ?_) (fun h2 => ?_)) <;> (try simp only [cond_true] at h2))
    · conv => whnf
      repeat ((first | (apply guardI; · rfl) | (apply condT; · assumption) | (apply condF; · assumption) | (apply condNT; · assumption) | (apply condNF; · assumption)); conv => whnf)
      have h' : i < a.length := by simpa using h2
      have h'' : i < b.length := by omega
      refine ⟨by simp [h'], ?_⟩
      rw [getD_map (f := Pt.d) (d := .nilp) h']
      conv => whnf
      repeat ((first | (apply guardI; · rfl) | (apply condT; · assumption) | (apply condF; · assumption) | (apply condNT; · assumption) | (apply condNF; · assumption)); conv => whnf)
      refine ⟨by simp [h''], ?_⟩
      rw [getD_map (f := Pt.d) (d := .nilp) h'']
      conv => whnf
      repeat ((first | (apply guardI; · rfl) | (apply condT; · assumption) | (apply condF; · assumption) | (apply condNT; · assumption) | (apply condNF; · assumption)); conv => whnf)
      first | refine condGF (fun h3 => ?_) (fun h3 => ?_) | ((refine condI (fun h3 => ?_) (fun h3 => ?_)) <;> (try simp only [cond_true] at h3))
      · conv => whnf
        repeat ((first | (apply guardI; · rfl) | (apply condT; · assumption) | (apply condF; · assumption) | (apply condNT; · assumption) | (apply condNF; · assumption)); conv => whnf)
        refine ⟨a.length - (i + 1), by omega, i + 1, by omega, rfl, ?_, congrArg (st28 a b) (wrapB h' ha)⟩
        intro j h1 h2 hj
        by_cases hje : j = i
        · subst hje
          have h3 : (decide (a[j].a = b[j].a) && (decide (a[j].i = b[j].i) && true)) = true := h3
          generalize a[j] = p at h3 ⊢
          generalize b[j] = q at h3 ⊢
          cases p; cases q
          simpa using h3
        · exact hall j h1 h2 (by omega)
      · conv => whnf
        repeat ((first | (apply guardI; · rfl) | (apply condT; · assumption) | (apply condF; · assumption) | (apply condNT; · assumption) | (apply condNF; · assumption)); conv => whnf)
        have h3 : (decide (a[i].a = b[i].a) && (decide (a[i].i = b[i].i) && true)) = false := h3
        refine ⟨show Val.d (.bool false) = _ from ?_, rfl⟩
        have hne : a ≠ b := by
          intro hab
          subst hab
          simp at h3
        simp [hne]
    · conv => whnf
      repeat ((first | (apply guardI; · rfl) | (apply condT; · assumption) | (apply condF; · assumption) | (apply condNT; · assumption) | (apply condNF; · assumption)); conv => whnf)
      refine ⟨show Val.d (.bool true) = _ from ?_, rfl⟩
      have hab : a = b := List.ext_getElem hl fun j h1 h2' => hall j h1 h2' (by simp at h2; omega)
      simp [hab]
  · conv => whnf
    repeat ((first | (apply guardI; · rfl) | (apply condT; · assumption) | (apply condF; · assumption) | (apply condNT; · assumption) | (apply condNF; · assumption)); conv => whnf)
    refine ⟨show Val.d (.bool false) = _ from ?_, rfl⟩
    have hne : a ≠ b := by rintro rfl; simp at h
    simp [hne]

def st63 (a b : List Co) (n : Int) : St := mkS [(0, .d (sD a)), (1, .d (sD b)), (12, .d (int a.length)), (13, .d (int n))] []
theorem e63 (a b : List Co) (ha : a.length < BIG) : VEv Tryd.prog gl 63 [.d (sD a), .d (sD b)] [] (.d (.bool (decide (a = b)))) [] := by
  refine cp63.vev ?_
  conv => whnf
  repeat ((first | (apply guardI; · rfl) | (apply condT; · assumption) | (apply condF; · assumption) | (apply condNT; · assumption) | (apply condNF; · assumption)); conv => whnf)
  first | refine condGF (fun h => ?_) (fun h => ?_) | ((refine condI (fun h => ?_) (fun h => ?_)) <;> (try simp only [cond_true] at h))
  · conv => whnf
    repeat ((first | (apply guardI; · rfl) | (apply condT; · assumption) | (apply condF; · assumption) | (apply condNT; · assumption) | (apply condNF; · assumption)); conv => whnf)
    have hl : a.length = b.length := by simp at h; omega
    refine ⟨fun n st => ∃ i : Nat, i ≤ a.length ∧ n = a.length - i ∧ (∀ j (h1 : j < a.length) (h2 : j < b.length), j < i → a[j] = b[j]) ∧ st = st63 a b i, a.length, ⟨0, by omega, rfl, by omega, ?_⟩, ?_⟩
    · exact congrArg (fun k => (mkS [(0, .d (sD a)), (1, .d (sD b)), (12, .d (int k)), (13, .d (int 0))] [] : St)) (by simp)
    rintro _ _ ⟨i, hi, rfl, hall, rfl⟩
    conv => whnf
    repeat ((first | (apply guardI; · rfl) | (apply condT; · assumption) | (apply condF; · assumption) | (apply condNT; · assumption) | (apply condNF; · assumption)); conv => whnf)
    first | refine condGF (fun h2 => ?_) (fun h2 => ?_) | ((refine condI (fun h2 => ?_) (fun h2 => ?_)) <;> (try simp only [cond_true] at h2))
    · conv => whnf
      repeat ((first | (apply guardI; · rfl) | (apply condT; · assumption) | (apply condF; · assumption) | (apply condNT; · assumption) | (apply condNF; · assumption)); conv => whnf)
      have h' : i < a.length := by simpa using h2
      have h'' : i < b.length := by omega
      refine ⟨by simp [h'], ?_⟩
      rw [getD_map (f := Co.d) (d := .nilp) h']
      conv => whnf
      repeat ((first | (apply guardI; · rfl) | (apply condT; · assumption) | (apply condF; · assumption) | (apply condNT; · assumption) | (apply condNF; · assumption)); conv => whnf)
      refine ⟨by simp [h''], ?_⟩
      rw [getD_map (f := Co.d) (d := .nilp) h'']
      conv => whnf
      repeat ((first | (apply guardI; · rfl) | (apply condT; · assumption) | (apply condF; · assumption) | (apply condNT; · assumption) | (apply condNF; · assumption)); conv => whnf)
      first | refine condGF (fun h3 => ?_) (fun h3 => ?_) | ((refine condI (fun h3 => ?_) (fun h3 => ?_)) <;> (try simp only [cond_true] at h3))
      · conv => whnf
        repeat ((first | (apply guardI; · rfl) | (apply condT; · assumption) | (apply condF; · assumption) | (apply condNT; · assumption) | (apply condNF; · assumption)); conv => whnf)
        refine ⟨a.length - (i + 1), by omega, i + 1, by omega, rfl, ?_, congrArg (st63 a b) (wrapB h' ha)⟩
        intro j h1 h2 hj
        by_cases hje : j = i
        · subst hje
          have h3 : (decide (a[j].name = b[j].name) && (decide (a[j].ty = b[j].ty) && true)) = true := h3
          generalize a[j] = p at h3 ⊢
          generalize b[j] = q at h3 ⊢
          cases p; cases q
          simpa using h3
        · exact hall j h1 h2 (by omega)
      · conv => whnf
        repeat ((first | (apply guardI; · rfl) | (apply condT; · assumption) | (apply condF; · assumption) | (apply condNT; · assumption) | (apply condNF; · assumption)); conv => whnf)
        have h3 : (decide (a[i].name = b[i].name) && (decide (a[i].ty = b[i].ty) && true)) = false := h3
        refine ⟨show Val.d (.bool false) = _ from ?_, rfl⟩
        have hne : a ≠ b := by
          intro hab
          subst hab
          simp at h3
        simp [hne]
    · conv => whnf
      repeat ((first | (apply guardI; · rfl) | (apply condT; · assumption) | (apply condF; · assumption) | (apply condNT; · assumption) | (apply condNF; · assumption)); conv => whnf)
      refine ⟨show Val.d (.bool true) = _ from ?_, rfl⟩
      have hab : a = b := List.ext_getElem hl fun j h1 h2' => hall j h1 h2' (by simp at h2; omega)
      simp [hab]
  · conv => whnf
    repeat ((first | (apply guardI; · rfl) | (apply condT; · assumption) | (apply condF; · assumption) | (apply condNT; · assumption) | (apply condNF; · assumption)); conv => whnf)
    refine ⟨show Val.d (.bool false) = _ from ?_, rfl⟩
    have hne : a ≠ b := by rintro rfl; simp at h
    simp [hne]

def st52 (a b : List Va) (n : Int) : St := mkS [(0, .d (rD a)), (1, .d (rD b)), (12, .d (int a.length)), (13, .d (int n))] []
theorem e52 (a b : List Va) (ha : a.length < BIG) : VEv Tryd.prog gl 52 [.d (rD a), .d (rD b)] [] (.d (.bool (decide (a = b)))) [] := by
  refine cp52.vev ?_
  conv => whnf
  repeat ((first | (apply guardI; · rfl) | (apply condT; · assumption) | (apply condF; · assumption) | (apply condNT; · assumption) | (apply condNF; · assumption)); conv => whnf)
  first | refine condGF (fun h => ?_) (fun h => ?_) | ((refine condI (fun h => ?_) (fun h => ?_)) <;> (try simp only [cond_true] at h))
  · conv => whnf
    repeat ((first | (apply guardI; · rfl) | (apply condT; · assumption) | (apply condF; · assumption) | (apply condNT; · assumption) | (apply condNF; · assumption)); conv => whnf)
    have hl : a.length = b.length := by simp at h; omega
    refine ⟨fun n st => ∃ i : Nat, i ≤ a.length ∧ n = a.length - i ∧ (∀ j (h1 : j < a.length) (h2 : j < b.length), j < i → a[j] = b[j]) ∧ st = st52 a b i, a.length, ⟨0, by omega, rfl, by omega, ?_⟩, ?_⟩
    · exact congrArg (fun k => (mkS [(0, .d (rD a)), (1, .d (rD b)), (12, .d (int k)), (13, .d (int 0))] [] : St)) (by simp)
    rintro _ _ ⟨i, hi, rfl, hall, rfl⟩
    conv => whnf
    repeat ((first | (apply guardI; · rfl) | (apply condT; · assumption) | (apply condF; · assumption) | (apply condNT; · assumption) | (apply condNF; · assumption)); conv => whnf)
    first | refine condGF (fun h2 => ?_) (fun h2 => ?_) | ((refine condI (fun h2 => ?_) (fun h2 => ?_)) <;> (try simp only [cond_true] at h2))
    · conv => whnf
      repeat ((first | (apply guardI; · rfl) | (apply condT; · assumption) | (apply condF; · assumption) | (apply condNT; · assumption) | (apply condNF; · assumption)); conv => whnf)
      have h' : i < a.length := by simpa using h2
      have h'' : i < b.length := by omega
      refine ⟨by simp [h'], ?_⟩
      rw [getD_map (f := Va.d) (d := .nilp) h']
      conv => whnf
      repeat ((first | (apply guardI; · rfl) | (apply condT; · assumption) | (apply condF; · assumption) | (apply condNT; · assumption) | (apply condNF; · assumption)); conv => whnf)
      refine ⟨by simp [h''], ?_⟩
      rw [getD_map (f := Va.d) (d := .nilp) h'']
      conv => whnf
      repeat ((first | (apply guardI; · rfl) | (apply condT; · assumption) | (apply condF; · assumption) | (apply condNT; · assumption) | (apply condNF; · assumption)); conv => whnf)
      first | refine condGF (fun h3 => ?_) (fun h3 => ?_) | ((refine condI (fun h3 => ?_) (fun h3 => ?_)) <;> (try simp only [cond_true] at h3))
      · conv => whnf
        repeat ((first | (apply guardI; · rfl) | (apply condT; · assumption) | (apply condF; · assumption) | (apply condNT; · assumption) | (apply condNF; · assumption)); conv => whnf)
        refine ⟨a.length - (i + 1), by omega, i + 1, by omega, rfl, ?_, congrArg (st52 a b) (wrapB h' ha)⟩
        intro j h1 h2 hj
        by_cases hje : j = i
        · subst hje
          have h3 : (decide (a[j].k = b[j].k) && (decide (a[j].n = b[j].n) && (decide (a[j].t = b[j].t) && true))) = true := h3
          generalize a[j] = p at h3 ⊢
          generalize b[j] = q at h3 ⊢
          cases p; cases q
          simpa using h3
        · exact hall j h1 h2 (by omega)
      · conv => whnf
        repeat ((first | (apply guardI; · rfl) | (apply condT; · assumption) | (apply condF; · assumption) | (apply condNT; · assumption) | (apply condNF; · assumption)); conv => whnf)
        have h3 : (decide (a[i].k = b[i].k) && (decide (a[i].n = b[i].n) && (decide (a[i].t = b[i].t) && true))) = false := h3
        refine ⟨show Val.d (.bool false) = _ from ?_, rfl⟩
        have hne : a ≠ b := by
          intro hab
          subst hab
          simp at h3
        simp [hne]
    · conv => whnf
      repeat ((first | (apply guardI; · rfl) | (apply condT; · assumption) | (apply condF; · assumption) | (apply condNT; · assumption) | (apply condNF; · assumption)); conv => whnf)
      refine ⟨show Val.d (.bool true) = _ from ?_, rfl⟩
      have hab : a = b := List.ext_getElem hl fun j h1 h2' => hall j h1 h2' (by simp at h2; omega)
      simp [hab]
  · conv => whnf
    repeat ((first | (apply guardI; · rfl) | (apply condT; · assumption) | (apply condF; · assumption) | (apply condNT; · assumption) | (apply condNF; · assumption)); conv => whnf)
    refine ⟨show Val.d (.bool false) = _ from ?_, rfl⟩
    have hne : a ≠ b := by rintro rfl; simp at h
    simp [hne]

theorem e25 (l : List Pt) (hl : l.length < SM) : VEv Tryd.prog gl 25 [.d (psD l)] [] (.d (psD l)) [] := by
  have hl : l.length < 4294967296 := hl
  refine cp25.vev ?_
  conv => whnf
  repeat ((first | (apply guardI; · rfl) | (apply condT; · assumption) | (apply condF; · assumption) | (apply condNT; · assumption) | (apply condNF; · assumption)); conv => whnf)
  cases l with
  | nil =>
    refine ⟨?_, ?_⟩
    · conv => whnf
      repeat ((first | (apply guardI; · rfl) | (apply condT; · assumption) | (apply condF; · assumption) | (apply condNT; · assumption) | (apply condNF; · assumption)); conv => whnf)
      first | exact ⟨rfl, rfl⟩ | exact rfl
    · conv => whnf
      repeat ((first | (apply guardI; · rfl) | (apply condT; · assumption) | (apply condF; · assumption) | (apply condNT; · assumption) | (apply condNF; · assumption)); conv => whnf)
      first | exact ⟨rfl, rfl⟩ | exact rfl
  | cons x l =>
    conv => whnf
    repeat ((first | (apply guardI; · rfl) | (apply condT; · assumption) | (apply condF; · assumption) | (apply condNT; · assumption) | (apply condNF; · assumption)); conv => whnf)
    refine ⟨by simp at hl ⊢; omega, ?_⟩
    conv => whnf
    repeat ((first | (apply guardI; · rfl) | (apply condT; · assumption) | (apply condF; · assumption) | (apply condNT; · assumption) | (apply condNF; · assumption)); conv => whnf)
    first | exact ⟨rfl, rfl⟩ | exact rfl

theorem e47 (l : List Co) (hl : l.length < SM) : VEv Tryd.prog gl 47 [.d (sD l)] [] (.d (sD l)) [] := by
  have hl : l.length < 4294967296 := hl
  refine cp47.vev ?_
  conv => whnf
  repeat ((first | (apply guardI; · rfl) | (apply condT; · assumption) | (apply condF; · assumption) | (apply condNT; · assumption) | (apply condNF; · assumption)); conv => whnf)
  cases l with
  | nil =>
    refine ⟨?_, ?_⟩
    · conv => whnf
      repeat ((first | (apply guardI; · rfl) | (apply condT; · assumption) | (apply condF; · assumption) | (apply condNT; · assumption) | (apply condNF; · assumption)); conv => whnf)
      first | exact ⟨rfl, rfl⟩ | exact rfl
    · conv => whnf
      repeat ((first | (apply guardI; · rfl) | (apply condT; · assumption) | (apply condF; · assumption) | (apply condNT; · assumption) | (apply condNF; · assumption)); conv => whnf)
      first | exact ⟨rfl, rfl⟩ | exact rfl
  | cons x l =>
    conv => whnf
    repeat ((first | (apply guardI; · rfl) | (apply condT; · assumption) | (apply condF; · assumption) | (apply condNT; · assumption) | (apply condNF; · assumption)); conv => whnf)
    refine ⟨by simp at hl ⊢; omega, ?_⟩
    conv => whnf
    repeat ((first | (apply guardI; · rfl) | (apply condT; · assumption) | (apply condF; · assumption) | (apply condNT; · assumption) | (apply condNF; · assumption)); conv => whnf)
    first | exact ⟨rfl, rfl⟩ | exact rfl

theorem e62 (l : List Va) (hl : l.length < SM) : VEv Tryd.prog gl 62 [.d (rD l)] [] (.d (rD l)) [] := by
  have hl : l.length < 4294967296 := hl
  refine cp62.vev ?_
  conv => whnf
  repeat ((first | (apply guardI; · rfl) | (apply condT; · assumption) | (apply condF; · assumption) | (apply condNT; · assumption) | (apply condNF; · assumption)); conv => whnf)
  cases l with
  | nil =>
    refine ⟨?_, ?_⟩
    · conv => whnf
      repeat ((first | (apply guardI; · rfl) | (apply condT; · assumption) | (apply condF; · assumption) | (apply condNT; · assumption) | (apply condNF; · assumption)); conv => whnf)
      first | exact ⟨rfl, rfl⟩ | exact rfl
    · conv => whnf
      repeat ((first | (apply guardI; · rfl) | (apply condT; · assumption) | (apply condF; · assumption) | (apply condNT; · assumption) | (apply condNF; · assumption)); conv => whnf)
      first | exact ⟨rfl, rfl⟩ | exact rfl
  | cons x l =>
    conv => whnf
    repeat ((first | (apply guardI; · rfl) | (apply condT; · assumption) | (apply condF; · assumption) | (apply condNT; · assumption) | (apply condNF; · assumption)); conv => whnf)
    refine ⟨by simp at hl ⊢; omega, ?_⟩
    conv => whnf
    repeat ((first | (apply guardI; · rfl) | (apply condT; · assumption) | (apply condF; · assumption) | (apply condNT; · assumption) | (apply condNF; · assumption)); conv => whnf)
    first | exact ⟨rfl, rfl⟩ | exact rfl

theorem e46 (l : List UInt8) (hl : l.length < SM) : VEv Tryd.prog gl 46 [.d (bs l)] [] (.d (bs l)) [] := by
  have hl : l.length < 4294967296 := hl
  refine cp46.vev ?_
  conv => whnf
  repeat ((first | (apply guardI; · rfl) | (apply condT; · assumption) | (apply condF; · assumption) | (apply condNT; · assumption) | (apply condNF; · assumption)); conv => whnf)
  cases l with
  | nil =>
    refine ⟨?_, ?_⟩
    · conv => whnf
      repeat ((first | (apply guardI; · rfl) | (apply condT; · assumption) | (apply condF; · assumption) | (apply condNT; · assumption) | (apply condNF; · assumption)); conv => whnf)
      first | exact ⟨rfl, rfl⟩ | exact rfl
    · conv => whnf
      repeat ((first | (apply guardI; · rfl) | (apply condT; · assumption) | (apply condF; · assumption) | (apply condNT; · assumption) | (apply condNF; · assumption)); conv => whnf)
      first | exact ⟨rfl, rfl⟩ | exact rfl
  | cons x l =>
    conv => whnf
    repeat ((first | (apply guardI; · rfl) | (apply condT; · assumption) | (apply condF; · assumption) | (apply condNT; · assumption) | (apply condNF; · assumption)); conv => whnf)
    refine ⟨by simp at hl ⊢; omega, ?_⟩
    conv => whnf
    repeat ((first | (apply guardI; · rfl) | (apply condT; · assumption) | (apply condF; · assumption) | (apply condNT; · assumption) | (apply condNF; · assumption)); conv => whnf)
    first | exact ⟨rfl, rfl⟩ | exact rfl

def SmRows (l : List (List Va)) : Prop := l.length < SM ∧ ∀ r, r ∈ l → r.length < SM

def st48 (l : List (List Va)) (acc : List D) (n : Int) : St := mkS [(3, .own 1 acc), (6, .d (rsD l)), (7, .d (int l.length)), (8, .d (int n))] []
theorem e48 (l : List (List Va)) (hl : SmRows l) : VEv Tryd.prog gl 48 [.d (rsD l)] [] (.d (rsD l)) [] := by
  have hlen : l.length < 4294967296 := hl.1
  refine cp48.vev ?_
  conv => whnf
  repeat ((first | (apply guardI; · rfl) | (apply condT; · assumption) | (apply condF; · assumption) | (apply condNT; · assumption) | (apply condNF; · assumption)); conv => whnf)
  refine ⟨fun n st => ∃ i : Nat, i ≤ l.length ∧ n = l.length - i ∧ st = st48 l ((l.take i).map rD) i, l.length, ⟨0, by omega, rfl, ?_⟩, ?_⟩
  · exact congrArg (fun k => (mkS [(3, .own 1 []), (6, .d (rsD l)), (7, .d (int k)), (8, .d (int 0))] [] : St)) (by simp)
  rintro _ _ ⟨i, hi, rfl, rfl⟩
  conv => whnf
  repeat ((first | (apply guardI; · rfl) | (apply condT; · assumption) | (apply condF; · assumption) | (apply condNT; · assumption) | (apply condNF; · assumption)); conv => whnf)
  first | refine condGF (fun h => ?_) (fun h => ?_) | ((refine condI (fun h => ?_) (fun h => ?_)) <;> (try simp only [cond_true] at h))
  · conv => whnf
    repeat ((first | (apply guardI; · rfl) | (apply condT; · assumption) | (apply condF; · assumption) | (apply condNT; · assumption) | (apply condNF; · assumption)); conv => whnf)
    have h' : i < l.length := by simpa using h
    refine ⟨by simp [h'], ?_⟩
    rw [getD_map (f := rD) (d := .nilp) h']
    conv => whnf
    repeat ((first | (apply guardI; · rfl) | (apply condT; · assumption) | (apply condF; · assumption) | (apply condNT; · assumption) | (apply condNF; · assumption)); conv => whnf)
    refine ⟨_, _, e62 l[i] (hl.2 _ (List.getElem_mem h')), ?_⟩
    conv => whnf
    repeat ((first | (apply guardI; · rfl) | (apply condT; · assumption) | (apply condF; · assumption) | (apply condNT; · assumption) | (apply condNF; · assumption)); conv => whnf)
    refine ⟨by simp; omega, ?_⟩
    conv => whnf
    repeat ((first | (apply guardI; · rfl) | (apply condT; · assumption) | (apply condF; · assumption) | (apply condNT; · assumption) | (apply condNF; · assumption)); conv => whnf)
    refine ⟨l.length - (i + 1), by omega, i + 1, by omega, rfl, ?_⟩
    have e : (l.take i).map rD ++ [rD l[i]] = (l.take (i + 1)).map rD := by
      rw [List.take_succ_eq_append_getElem h', List.map_append]; rfl
    rw [← e]
    exact congrArg (st48 l _) (wrapS (by omega))
  · conv => whnf
    repeat ((first | (apply guardI; · rfl) | (apply condT; · assumption) | (apply condF; · assumption) | (apply condNT; · assumption) | (apply condNF; · assumption)); conv => whnf)
    have h' : i = l.length := by simp at h; omega
    refine ⟨show Val.d (.list 1 ((l.take i).map rD)) = _ from ?_, rfl⟩
    rw [h', List.take_length]
    rfl

def SmTb (t : Tb) : Prop := t.s.length < SM ∧ SmRows t.r
theorem e24 (t : Tb) (ht : SmTb t) : VEv Tryd.prog gl 24 [.d t.d] [] (.d t.d) [] := by
  refine cp24.vev ?_
  conv => whnf
  repeat ((first | (apply guardI; · rfl) | (apply condT; · assumption) | (apply condF; · assumption) | (apply condNT; · assumption) | (apply condNF; · assumption)); conv => whnf)
  refine ⟨_, _, e47 t.s ht.1, ?_⟩
  conv => whnf
  repeat ((first | (apply guardI; · rfl) | (apply condT; · assumption) | (apply condF; · assumption) | (apply condNT; · assumption) | (apply condNF; · assumption)); conv => whnf)
  refine ⟨_, _, e48 t.r ht.2, ?_⟩
  conv => whnf
  repeat ((first | (apply guardI; · rfl) | (apply condT; · assumption) | (apply condF; · assumption) | (apply condNT; · assumption) | (apply condNF; · assumption)); conv => whnf)
  first | exact ⟨rfl, rfl⟩ | exact rfl

theorem e49 (a b : List Co) (ha : a.length < BIG) : VEv Tryd.prog gl 49 [.d (sD a), .d (sD b)] [] (.d (.bool (decide (a = b)))) [] := by
  refine cp49.vev ?_
  conv => whnf
  repeat ((first | (apply guardI; · rfl) | (apply condT; · assumption) | (apply condF; · assumption) | (apply condNT; · assumption) | (apply condNF; · assumption)); conv => whnf)
  refine ⟨_, _, e63 a b ha, ?_⟩
  conv => whnf
  repeat ((first | (apply guardI; · rfl) | (apply condT; · assumption) | (apply condF; · assumption) | (apply condNT; · assumption) | (apply condNF; · assumption)); conv => whnf)
  first | exact ⟨rfl, rfl⟩ | exact rfl

theorem e51 (a b : List Va) (ha : a.length < BIG) : VEv Tryd.prog gl 51 [.d (rD a), .d (rD b)] [] (.d (.bool (decide (a = b)))) [] := by
  refine cp51.vev ?_
  conv => whnf
  repeat ((first | (apply guardI; · rfl) | (apply condT; · assumption) | (apply condF; · assumption) | (apply condNT; · assumption) | (apply condNF; · assumption)); conv => whnf)
  refine ⟨_, _, e52 a b ha, ?_⟩
  conv => whnf
  repeat ((first | (apply guardI; · rfl) | (apply condT; · assumption) | (apply condF; · assumption) | (apply condNT; · assumption) | (apply condNF; · assumption)); conv => whnf)
  first | exact ⟨rfl, rfl⟩ | exact rfl

def st50 (a b : List (List Va)) (n : Int) : St := mkS [(1, .d (rsD b)), (2, .d (.fn 51)), (15, .d (rsD a)), (16, .d (int a.length)), (17, .d (int n))] []
theorem e50 (a b : List (List Va)) (ha : RowsOk a) : VEv Tryd.prog gl 50 [.d (rsD a), .d (rsD b), .d (.fn 51)] [] (.d (.bool (decide (a = b)))) [] := by
  refine cp50.vev ?_
  conv => whnf
  repeat ((first | (apply guardI; · rfl) | (apply condT; · assumption) | (apply condF; · assumption) | (apply condNT; · assumption) | (apply condNF; · assumption)); conv => whnf)
  first | refine condGF (fun h => ?_) (fun h => ?_) | ((refine condI (fun h => ?_) (fun h => ?_)) <;> (try simp only [cond_true] at h))
  · conv => whnf
    repeat ((first | (apply guardI; · rfl) | (apply condT; · assumption) | (apply condF; · assumption) | (apply condNT; · assumption) | (apply condNF; · assumption)); conv => whnf)
    have hl : a.length = b.length := by simp at h; omega
    refine ⟨fun n st => ∃ i : Nat, i ≤ a.length ∧ n = a.length - i ∧ (∀ j (h1 : j < a.length) (h2 : j < b.length), j < i → a[j] = b[j]) ∧ st = st50 a b i, a.length, ⟨0, by omega, rfl, by omega, ?_⟩, ?_⟩
    · exact congrArg (fun k => (mkS [(1, .d (rsD b)), (2, .d (.fn 51)), (15, .d (rsD a)), (16, .d (int k)), (17, .d (int 0))] [] : St)) (by simp)
    rintro _ _ ⟨i, hi, rfl, hall, rfl⟩
    conv => whnf
    repeat ((first | (apply guardI; · rfl) | (apply condT; · assumption) | (apply condF; · assumption) | (apply condNT; · assumption) | (apply condNF; · assumption)); conv => whnf)
    first | refine condGF (fun h2 => ?_) (fun h2 => ?_) | ((refine condI (fun h2 => ?_) (fun h2 => ?_)) <;> (try simp only [cond_true] at h2))
    · conv => whnf
      repeat ((first | (apply guardI; · rfl) | (apply condT; · assumption) | (apply condF; · assumption) | (apply condNT; · assumption) | (apply condNF; · assumption)); conv => whnf)
      have h' : i < a.length := by simpa using h2
      have h'' : i < b.length := by omega
      refine ⟨by simp [h'], ?_⟩
      rw [getD_map (f := rD) (d := .nilp) h']
      conv => whnf
      repeat ((first | (apply guardI; · rfl) | (apply condT; · assumption) | (apply condF; · assumption) | (apply condNT; · assumption) | (apply condNF; · assumption)); conv => whnf)
      refine ⟨by simp [h''], ?_⟩
      rw [getD_map (f := rD) (d := .nilp) h'']
      conv => whnf
      repeat ((first | (apply guardI; · rfl) | (apply condT; · assumption) | (apply condF; · assumption) | (apply condNT; · assumption) | (apply condNF; · assumption)); conv => whnf)
      refine ⟨_, _, e51 a[i] b[i] (ha.2 _ (List.getElem_mem h')).1, ?_⟩
      conv => whnf
      repeat ((first | (apply guardI; · rfl) | (apply condT; · assumption) | (apply condF; · assumption) | (apply condNT; · assumption) | (apply condNF; · assumption)); conv => whnf)
      first | refine condGF (fun h3 => ?_) (fun h3 => ?_) | ((refine condI (fun h3 => ?_) (fun h3 => ?_)) <;> (try simp only [cond_true] at h3))
      · conv => whnf
        repeat ((first | (apply guardI; · rfl) | (apply condT; · assumption) | (apply condF; · assumption) | (apply condNT; · assumption) | (apply condNF; · assumption)); conv => whnf)
        refine ⟨a.length - (i + 1), by omega, i + 1, by omega, rfl, ?_, congrArg (st50 a b) (wrapB h' ha.1)⟩
        intro j h1 h2 hj
        by_cases hje : j = i
        · subst hje; exact of_decide_eq_true h3
        · exact hall j h1 h2 (by omega)
      · conv => whnf
        repeat ((first | (apply guardI; · rfl) | (apply condT; · assumption) | (apply condF; · assumption) | (apply condNT; · assumption) | (apply condNF; · assumption)); conv => whnf)
        refine ⟨show Val.d (.bool false) = _ from ?_, rfl⟩
        have hne : a ≠ b := by rintro rfl; simp at h3
        simp [hne]
    · conv => whnf
      repeat ((first | (apply guardI; · rfl) | (apply condT; · assumption) | (apply condF; · assumption) | (apply condNT; · assumption) | (apply condNF; · assumption)); conv => whnf)
      refine ⟨show Val.d (.bool true) = _ from ?_, rfl⟩
      have hab : a = b := List.ext_getElem hl fun j h1 h2' => hall j h1 h2' (by simp at h2; omega)
      simp [hab]
  · conv => whnf
    repeat ((first | (apply guardI; · rfl) | (apply condT; · assumption) | (apply condF; · assumption) | (apply condNT; · assumption) | (apply condNF; · assumption)); conv => whnf)
    refine ⟨show Val.d (.bool false) = _ from ?_, rfl⟩
    have hne : a ≠ b := by rintro rfl; simp at h
    simp [hne]

theorem e26 (a b : Tb) (hs : a.s.length < BIG) (hr : RowsOk a.r) : VEv Tryd.prog gl 26 [.d a.d, .d b.d] [] (.d (.bool (decide (a = b)))) [] := by
  refine cp26.vev ?_
  conv => whnf
  repeat ((first | (apply guardI; · rfl) | (apply condT; · assumption) | (apply condF; · assumption) | (apply condNT; · assumption) | (apply condNF; · assumption)); conv => whnf)
  refine ⟨_, _, e49 a.s b.s hs, ?_⟩
  conv => whnf
  repeat ((first | (apply guardI; · rfl) | (apply condT; · assumption) | (apply condF; · assumption) | (apply condNT; · assumption) | (apply condNF; · assumption)); conv => whnf)
  first | refine condGF (fun h => ?_) (fun h => ?_) | ((refine condI (fun h => ?_) (fun h => ?_)) <;> (try simp only [cond_true] at h))
  · conv => whnf
    repeat ((first | (apply guardI; · rfl) | (apply condT; · assumption) | (apply condF; · assumption) | (apply condNT; · assumption) | (apply condNF; · assumption)); conv => whnf)
    refine ⟨_, _, e50 a.r b.r hr, ?_⟩
    conv => whnf
    repeat ((first | (apply guardI; · rfl) | (apply condT; · assumption) | (apply condF; · assumption) | (apply condNT; · assumption) | (apply condNF; · assumption)); conv => whnf)
    refine ⟨show Val.d (.bool (decide (a.r = b.r))) = _ from ?_, rfl⟩
    have h : a.s = b.s := of_decide_eq_true h
    cases a; cases b
    simp at h ⊢
    simp [h]
  · conv => whnf
    repeat ((first | (apply guardI; · rfl) | (apply condT; · assumption) | (apply condF; · assumption) | (apply condNT; · assumption) | (apply condNF; · assumption)); conv => whnf)
    refine ⟨show Val.d (.bool false) = _ from ?_, rfl⟩
    have hne : a ≠ b := by rintro rfl; simp at h
    simp [hne]

end Go.Proofs.YthalcnhgnadmlaaDoor
