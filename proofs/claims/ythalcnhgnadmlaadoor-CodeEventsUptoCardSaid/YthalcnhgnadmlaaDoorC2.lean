/- What the checks of tables compute. Conditions: none. -/
import Derived.Test.YthalcnhgnadmlaaDoorC1
set_option maxRecDepth 100000
namespace Go.Proofs.YthalcnhgnadmlaaDoor
open Go Go.Vm
attribute [local irreducible] Int.decLt Int.decLe Int.instDecidableEq IntKind.wrap instDecidableEqList

abbrev BIG : Nat := 4611686018427387904
theorem wrapB {i n : Nat} (h : i < n) (hn : n < BIG) : IntKind.i64.wrap ((i : Int) + 1) = ((i + 1 : Nat) : Int) := wrapS (Nat.lt_trans h hn)
def eqS (a b : Bs) : Bool := decide (a = b)

theorem e80 (c : Int) : ∃ b : Bool, True ∧ VEv Tryd.prog gl 80 [.d (.int .u8 c)] [] (.d (.bool b)) [] := by
  refine tot (fun b : Bool => .d (.bool b)) _ cp80 ?_
  conv => whnf
  repeat ((first | (apply guardI; · rfl) | (apply condT; · assumption) | (apply condF; · assumption) | (apply condNT; · assumption) | (apply condNF; · assumption)); conv => whnf)
  first | refine condGF (fun h => ?_) (fun h => ?_) | ((refine condI (fun h => ?_) (fun h => ?_)) <;> (try simp only [cond_true] at h))
  · conv => whnf
    repeat ((first | (apply guardI; · rfl) | (apply condT; · assumption) | (apply condF; · assumption) | (apply condNT; · assumption) | (apply condNF; · assumption)); conv => whnf)
    exact ⟨⟨_, trivial, rfl⟩, rfl⟩
  · conv => whnf
    repeat ((first | (apply guardI; · rfl) | (apply condT; · assumption) | (apply condF; · assumption) | (apply condNT; · assumption) | (apply condNF; · assumption)); conv => whnf)
    exact ⟨⟨_, trivial, rfl⟩, rfl⟩

theorem e81 (c : Int) : ∃ b : Bool, True ∧ VEv Tryd.prog gl 81 [.d (.int .u8 c)] [] (.d (.bool b)) [] := by
  obtain ⟨b, _, hb⟩ := e80 c
  refine tot (fun b : Bool => .d (.bool b)) _ cp81 ?_
  conv => whnf
  repeat ((first | (apply guardI; · rfl) | (apply condT; · assumption) | (apply condF; · assumption) | (apply condNT; · assumption) | (apply condNF; · assumption)); conv => whnf)
  refine ⟨_, _, hb, ?_⟩
  conv => whnf
  repeat ((first | (apply guardI; · rfl) | (apply condT; · assumption) | (apply condF; · assumption) | (apply condNT; · assumption) | (apply condNF; · assumption)); conv => whnf)
  cases b
  · conv => whnf
    repeat ((first | (apply guardI; · rfl) | (apply condT; · assumption) | (apply condF; · assumption) | (apply condNT; · assumption) | (apply condNF; · assumption)); conv => whnf)
    refine condN (fun h => ?_) (fun h => ?_)
    · conv => whnf
      repeat ((first | (apply guardI; · rfl) | (apply condT; · assumption) | (apply condF; · assumption) | (apply condNT; · assumption) | (apply condNF; · assumption)); conv => whnf)
      first | refine condGF (fun h2 => ?_) (fun h2 => ?_) | ((refine condI (fun h2 => ?_) (fun h2 => ?_)) <;> (try simp only [cond_true] at h2))
      · conv => whnf
        repeat ((first | (apply guardI; · rfl) | (apply condT; · assumption) | (apply condF; · assumption) | (apply condNT; · assumption) | (apply condNF; · assumption)); conv => whnf)
        exact ⟨⟨_, trivial, rfl⟩, rfl⟩
      · conv => whnf
        repeat ((first | (apply guardI; · rfl) | (apply condT; · assumption) | (apply condF; · assumption) | (apply condNT; · assumption) | (apply condNF; · assumption)); conv => whnf)
        exact ⟨⟨_, trivial, rfl⟩, rfl⟩
    · conv => whnf
      repeat ((first | (apply guardI; · rfl) | (apply condT; · assumption) | (apply condF; · assumption) | (apply condNT; · assumption) | (apply condNF; · assumption)); conv => whnf)
      exact ⟨⟨_, trivial, rfl⟩, rfl⟩
  · conv => whnf
    repeat ((first | (apply guardI; · rfl) | (apply condT; · assumption) | (apply condF; · assumption) | (apply condNT; · assumption) | (apply condNF; · assumption)); conv => whnf)
    exact ⟨⟨_, trivial, rfl⟩, rfl⟩

def st79 (t : Bs) (n : Int) : St := mkS [(0, .d (.str t)), (6, .d (bs t)), (7, .d (int t.length)), (8, .d (int n))] []
theorem e79 (t : Bs) (ht : t.length < BIG) : ∃ b : Bool, True ∧ VEv Tryd.prog gl 79 [.d (.str t)] [] (.d (.bool b)) [] := by
  refine tot (fun b : Bool => .d (.bool b)) _ cp79 ?_
  conv => whnf
  repeat ((first | (apply guardI; · rfl) | (apply condT; · assumption) | (apply condF; · assumption) | (apply condNT; · assumption) | (apply condNF; · assumption)); conv => whnf)
  refine ⟨fun n st => ∃ i : Nat, i ≤ t.length ∧ n = t.length - i ∧ st = st79 t i, t.length, ⟨0, by omega, rfl, ?_⟩, ?_⟩
  · exact congrArg (fun k => (mkS [(0, .d (.str t)), (6, .d (bs t)), (7, .d (int k)), (8, .d (int 0))] [] : St)) (by simp)
  rintro _ _ ⟨i, hi, rfl, rfl⟩
  conv => whnf
  repeat ((first | (apply guardI; · rfl) | (apply condT; · assumption) | (apply condF; · assumption) | (apply condNT; · assumption) | (apply condNF; · assumption)); conv => whnf)
  first | refine condGF (fun h => ?_) (fun h => ?_) | ((refine condI (fun h => ?_) (fun h => ?_)) <;> (try simp only [cond_true] at h))
  · conv => whnf
    repeat ((first | (apply guardI; · rfl) | (apply condT; · assumption) | (apply condF; · assumption) | (apply condNT; · assumption) | (apply condNF; · assumption)); conv => whnf)
    have h' : i < t.length := by simpa using h
    refine ⟨by simp [h'], ?_⟩
    rw [getD_map (f := byteD) (d := .nilp) h']
    conv => whnf
    repeat ((first | (apply guardI; · rfl) | (apply condT; · assumption) | (apply condF; · assumption) | (apply condNT; · assumption) | (apply condNF; · assumption)); conv => whnf)
    first | refine condGF (fun h2 => ?_) (fun h2 => ?_) | ((refine condI (fun h2 => ?_) (fun h2 => ?_)) <;> (try simp only [cond_true] at h2))
    · conv => whnf
      repeat ((first | (apply guardI; · rfl) | (apply condT; · assumption) | (apply condF; · assumption) | (apply condNT; · assumption) | (apply condNF; · assumption)); conv => whnf)
      exact ⟨⟨_, trivial, rfl⟩, rfl⟩
    · conv => whnf
      repeat ((first | (apply guardI; · rfl) | (apply condT; · assumption) | (apply condF; · assumption) | (apply condNT; · assumption) | (apply condNF; · assumption)); conv => whnf)
      first | refine condGF (fun h3 => ?_) (fun h3 => ?_) | ((refine condI (fun h3 => ?_) (fun h3 => ?_)) <;> (try simp only [cond_true] at h3))
      · conv => whnf
        repeat ((first | (apply guardI; · rfl) | (apply condT; · assumption) | (apply condF; · assumption) | (apply condNT; · assumption) | (apply condNF; · assumption)); conv => whnf)
        exact ⟨⟨_, trivial, rfl⟩, rfl⟩
      · conv => whnf
        repeat ((first | (apply guardI; · rfl) | (apply condT; · assumption) | (apply condF; · assumption) | (apply condNT; · assumption) | (apply condNF; · assumption)); conv => whnf)
        exact ⟨t.length - (i + 1), by omega, i + 1, by omega, rfl, congrArg (st79 t) (wrapB h' ht)⟩
  · conv => whnf
    repeat ((first | (apply guardI; · rfl) | (apply condT; · assumption) | (apply condF; · assumption) | (apply condNT; · assumption) | (apply condNF; · assumption)); conv => whnf)
    exact ⟨⟨_, trivial, rfl⟩, rfl⟩

noncomputable def plB (t : Bs) : Bool := if h : t.length < BIG then Classical.choose (e79 t h) else false
theorem plB_ok {t : Bs} (h : t.length < BIG) : VEv Tryd.prog gl 79 [.d (.str t)] [] (.d (.bool (plB t))) [] := by
  have := (Classical.choose_spec (e79 t h)).2
  unfold plB
  rw [dif_pos h]
  exact this

/-- Is a value right? -/
noncomputable def rightB (v : Va) : Bool :=
  if v.k = 0 then decide (v.n = 0) && eqS v.t [] else if v.k = 1 then eqS v.t [] else if v.k = 2 then decide (v.n = 0) && plB v.t else false

theorem e71 (v : Va) (hv : v.t.length < BIG) : VEv Tryd.prog gl 71 [.d v.d] [] (.d (.bool (rightB v))) [] := by
  refine cp71.vev ?_
  conv => whnf
  repeat ((first | (apply guardI; · rfl) | (apply condT; · assumption) | (apply condF; · assumption) | (apply condNT; · assumption) | (apply condNF; · assumption)); conv => whnf)
  first | refine condGF (fun h => ?_) (fun h => ?_) | ((refine condI (fun h => ?_) (fun h => ?_)) <;> (try simp only [cond_true] at h))
  · conv => whnf
    repeat ((first | (apply guardI; · rfl) | (apply condT; · assumption) | (apply condF; · assumption) | (apply condNT; · assumption) | (apply condNF; · assumption)); conv => whnf)
    have h : v.k = 0 := of_decide_eq_true h
    first | refine condGF (fun h2 => ?_) (fun h2 => ?_) | ((refine condI (fun h2 => ?_) (fun h2 => ?_)) <;> (try simp only [cond_true] at h2))
    · conv => whnf
      repeat ((first | (apply guardI; · rfl) | (apply condT; · assumption) | (apply condF; · assumption) | (apply condNT; · assumption) | (apply condNF; · assumption)); conv => whnf)
      exact ⟨show Val.d (.bool (eqS v.t [])) = _ by simp [rightB, h, of_decide_eq_true h2], rfl⟩
    · conv => whnf
      repeat ((first | (apply guardI; · rfl) | (apply condT; · assumption) | (apply condF; · assumption) | (apply condNT; · assumption) | (apply condNF; · assumption)); conv => whnf)
      exact ⟨show Val.d (.bool false) = _ by simp [rightB, h, of_decide_eq_false h2], rfl⟩
  · conv => whnf
    repeat ((first | (apply guardI; · rfl) | (apply condT; · assumption) | (apply condF; · assumption) | (apply condNT; · assumption) | (apply condNF; · assumption)); conv => whnf)
    have h : v.k ≠ 0 := of_decide_eq_false h
    first | refine condGF (fun h2 => ?_) (fun h2 => ?_) | ((refine condI (fun h2 => ?_) (fun h2 => ?_)) <;> (try simp only [cond_true] at h2))
    · conv => whnf
      repeat ((first | (apply guardI; · rfl) | (apply condT; · assumption) | (apply condF; · assumption) | (apply condNT; · assumption) | (apply condNF; · assumption)); conv => whnf)
      have h2 : v.k = 1 := of_decide_eq_true h2
      exact ⟨show Val.d (.bool (eqS v.t [])) = _ by simp [rightB, h2], rfl⟩
    · conv => whnf
      repeat ((first | (apply guardI; · rfl) | (apply condT; · assumption) | (apply condF; · assumption) | (apply condNT; · assumption) | (apply condNF; · assumption)); conv => whnf)
      have h2 : v.k ≠ 1 := of_decide_eq_false h2
      first | refine condGF (fun h3 => ?_) (fun h3 => ?_) | ((refine condI (fun h3 => ?_) (fun h3 => ?_)) <;> (try simp only [cond_true] at h3))
      · conv => whnf
        repeat ((first | (apply guardI; · rfl) | (apply condT; · assumption) | (apply condF; · assumption) | (apply condNT; · assumption) | (apply condNF; · assumption)); conv => whnf)
        have h3 : v.k = 2 := of_decide_eq_true h3
        first | refine condGF (fun h4 => ?_) (fun h4 => ?_) | ((refine condI (fun h4 => ?_) (fun h4 => ?_)) <;> (try simp only [cond_true] at h4))
        · conv => whnf
          repeat ((first | (apply guardI; · rfl) | (apply condT; · assumption) | (apply condF; · assumption) | (apply condNT; · assumption) | (apply condNF; · assumption)); conv => whnf)
          refine ⟨_, _, plB_ok hv, ?_⟩
          conv => whnf
          repeat ((first | (apply guardI; · rfl) | (apply condT; · assumption) | (apply condF; · assumption) | (apply condNT; · assumption) | (apply condNF; · assumption)); conv => whnf)
          exact ⟨show Val.d (.bool (plB v.t)) = _ by simp [rightB, h3, of_decide_eq_true h4], rfl⟩
        · conv => whnf
          repeat ((first | (apply guardI; · rfl) | (apply condT; · assumption) | (apply condF; · assumption) | (apply condNT; · assumption) | (apply condNF; · assumption)); conv => whnf)
          exact ⟨show Val.d (.bool false) = _ by simp [rightB, h3, of_decide_eq_false h4], rfl⟩
      · conv => whnf
        repeat ((first | (apply guardI; · rfl) | (apply condT; · assumption) | (apply condF; · assumption) | (apply condNT; · assumption) | (apply condNF; · assumption)); conv => whnf)
        have h3 : v.k ≠ 2 := of_decide_eq_false h3
        exact ⟨show Val.d (.bool false) = _ by simp [rightB, h, h2, h3], rfl⟩

def st74 (t : Bs) (n : Int) : St := mkS [(19, .d (bs t)), (20, .d (int t.length)), (21, .d (int n))] []
theorem e74 (t : Bs) (ht : t.length < BIG) : ∃ b : Bool, True ∧ VEv Tryd.prog gl 74 [.d (.str t)] [] (.d (.bool b)) [] := by
  refine tot (fun b : Bool => .d (.bool b)) _ cp74 ?_
  conv => whnf
  repeat ((first | (apply guardI; · rfl) | (apply condT; · assumption) | (apply condF; · assumption) | (apply condNT; · assumption) | (apply condNF; · assumption)); conv => whnf)
  have loop : ∀ K : Val → Store → Prop, True := fun _ => trivial
  first | refine condGF (fun h => ?_) (fun h => ?_) | ((refine condI (fun h => ?_) (fun h => ?_)) <;> (try simp only [cond_true] at h))
  · conv => whnf
    repeat ((first | (apply guardI; · rfl) | (apply condT; · assumption) | (apply condF; · assumption) | (apply condNT; · assumption) | (apply condNF; · assumption)); conv => whnf)
    exact ⟨⟨_, trivial, rfl⟩, rfl⟩
  · conv => whnf
    repeat ((first | (apply guardI; · rfl) | (apply condT; · assumption) | (apply condF; · assumption) | (apply condNT; · assumption) | (apply condNF; · assumption)); conv => whnf)
    first | refine condGF (fun h2 => ?_) (fun h2 => ?_) | ((refine condI (fun h2 => ?_) (fun h2 => ?_)) <;> (try simp only [cond_true] at h2))
    · conv => whnf
      repeat ((first | (apply guardI; · rfl) | (apply condT; · assumption) | (apply condF; · assumption) | (apply condNT; · assumption) | (apply condNF; · assumption)); conv => whnf)
      exact ⟨⟨_, trivial, rfl⟩, rfl⟩
    · conv => whnf
      repeat ((first | (apply guardI; · rfl) | (apply condT; · assumption) | (apply condF; · assumption) | (apply condNT; · assumption) | (apply condNF; · assumption)); conv => whnf)
      have hne : 0 < t.length := by
        have : t ≠ [] := by simpa using h
        cases t with
        | nil => exact absurd rfl this
        | cons _ _ => simp
      refine ⟨by simp [hne], ?_⟩
      conv => whnf
      repeat ((first | (apply guardI; · rfl) | (apply condT; · assumption) | (apply condF; · assumption) | (apply condNT; · assumption) | (apply condNF; · assumption)); conv => whnf)
      obtain ⟨b, _, hb⟩ := e80 (t.getD (Int.toNat 0) 0).toNat
      refine ⟨_, _, hb, ?_⟩
      conv => whnf
      repeat ((first | (apply guardI; · rfl) | (apply condT; · assumption) | (apply condF; · assumption) | (apply condNT; · assumption) | (apply condNF; · assumption)); conv => whnf)
      cases b
      · conv => whnf
        repeat ((first | (apply guardI; · rfl) | (apply condT; · assumption) | (apply condF; · assumption) | (apply condNT; · assumption) | (apply condNF; · assumption)); conv => whnf)
        exact ⟨⟨_, trivial, rfl⟩, rfl⟩
      · conv => whnf
        repeat ((first | (apply guardI; · rfl) | (apply condT; · assumption) | (apply condF; · assumption) | (apply condNT; · assumption) | (apply condNF; · assumption)); conv => whnf)
        refine ⟨fun n st => ∃ i : Nat, i ≤ t.length ∧ n = t.length - i ∧ st = st74 t i, t.length, ⟨0, by omega, rfl, ?_⟩, ?_⟩
        · exact congrArg (fun k => (mkS [(19, .d (bs t)), (20, .d (int k)), (21, .d (int 0))] [] : St)) (by simp)
        rintro _ _ ⟨i, hi, rfl, rfl⟩
        conv => whnf
        repeat ((first | (apply guardI; · rfl) | (apply condT; · assumption) | (apply condF; · assumption) | (apply condNT; · assumption) | (apply condNF; · assumption)); conv => whnf)
        first | refine condGF (fun h3 => ?_) (fun h3 => ?_) | ((refine condI (fun h3 => ?_) (fun h3 => ?_)) <;> (try simp only [cond_true] at h3))
        · conv => whnf
          repeat ((first | (apply guardI; · rfl) | (apply condT; · assumption) | (apply condF; · assumption) | (apply condNT; · assumption) | (apply condNF; · assumption)); conv => whnf)
          have h' : i < t.length := by simpa using h3
          refine ⟨by simp [h'], ?_⟩
          rw [getD_map (f := byteD) (d := .nilp) h']
          conv => whnf
          repeat ((first | (apply guardI; · rfl) | (apply condT; · assumption) | (apply condF; · assumption) | (apply condNT; · assumption) | (apply condNF; · assumption)); conv => whnf)
          obtain ⟨b2, _, hb2⟩ := e81 (t[i]).toNat
          refine ⟨_, _, hb2, ?_⟩
          conv => whnf
          repeat ((first | (apply guardI; · rfl) | (apply condT; · assumption) | (apply condF; · assumption) | (apply condNT; · assumption) | (apply condNF; · assumption)); conv => whnf)
          cases b2
          · conv => whnf
            repeat ((first | (apply guardI; · rfl) | (apply condT; · assumption) | (apply condF; · assumption) | (apply condNT; · assumption) | (apply condNF; · assumption)); conv => whnf)
            exact ⟨⟨_, trivial, rfl⟩, rfl⟩
          · conv => whnf
            repeat ((first | (apply guardI; · rfl) | (apply condT; · assumption) | (apply condF; · assumption) | (apply condNT; · assumption) | (apply condNF; · assumption)); conv => whnf)
            exact ⟨t.length - (i + 1), by omega, i + 1, by omega, rfl, congrArg (st74 t) (wrapB h' ht)⟩
        · conv => whnf
          repeat ((first | (apply guardI; · rfl) | (apply condT; · assumption) | (apply condF; · assumption) | (apply condNT; · assumption) | (apply condNF; · assumption)); conv => whnf)
          exact ⟨⟨_, trivial, rfl⟩, rfl⟩

theorem find_str (k : Bs) : ∀ (es : List (D × Val)) (i : Nat), (∀ e, e ∈ es → ∃ s, e = (.str s, .d (.bool true))) → findK false [2] (.str k) es i = some none ∨ ∃ j, findK false [2] (.str k) es i = some (some (i + j)) ∧ ∃ s, es[j]? = some (.str s, .d (.bool true))
  | [], i, _ => .inl rfl
  | e :: es, i, h => by
    obtain ⟨s, rfl⟩ := h e (by simp)
    by_cases hk : k = s
    · subst hk
      exact .inr ⟨0, by simp [findK, isAg, eqK, D.cells], k, rfl⟩
    · have e1 : findK false [2] (.str k) ((.str s, .d (.bool true)) :: es) i = findK false [2] (.str k) es (i + 1) := by simp [findK, isAg, eqK, D.cells, hk]
      rw [e1]
      rcases find_str k es (i + 1) (fun e he => h e (by simp [he])) with h1 | ⟨j, h1, s2, h2⟩
      · exact .inl h1
      · exact .inr ⟨j + 1, by rw [h1]; congr 2; omega, s2, by simpa using h2⟩

def Keys (es : List (D × Val)) : Prop := ∀ e, e ∈ es → ∃ s, e = (.str s, .d (.bool true))

def NamesOk (s : List Co) : Prop := s.length < BIG ∧ ∀ c, c ∈ s → c.name.length < BIG

theorem forgot_same {n : Nat} {ts bs : List Nat} {st : St} {tm' : Nat → Val} {bx' : Nat → Option (List Val)} {s' : Store} (h1 : mkT st.tm ts = tm') (h2 : mkB st.bx bs = bx') (h3 : st.s = s') (h4 : s'.length ≤ n) : forgot n ts bs st = ⟨tm', bx', s'⟩ := by
  unfold forgot
  rw [h1, h2, h3, List.take_of_length_le h4]
  congr 1
  generalize (ts.all (fun t => okR n depth (st.tm t)) && bs.all (okB n st.bx) && List.all s' (Ob.okR n)) = c
  cases c <;> rfl

def st64 (s : List Co) (es : List (D × Val)) (n : Int) : St := mkS [(3, .map 0), (15, .d (sD s)), (16, .d (int s.length)), (17, .d (int n))] [.map es]
theorem e64 (s : List Co) (hs : NamesOk s) : ∃ e : Int, True ∧ VEv Tryd.prog gl 64 [.d (sD s)] [] (.d (int e)) [] := by
  refine tot (fun e : Int => .d (int e)) _ cp64 ?_
  conv => whnf
  repeat ((first | (apply guardI; · rfl) | (apply condT; · assumption) | (apply condF; · assumption) | (apply condNT; · assumption) | (apply condNF; · assumption)); conv => whnf)
  first | refine condGF (fun h => ?_) (fun h => ?_) | ((refine condI (fun h => ?_) (fun h => ?_)) <;> (try simp only [cond_true] at h))
  · conv => whnf
    repeat ((first | (apply guardI; · rfl) | (apply condT; · assumption) | (apply condF; · assumption) | (apply condNT; · assumption) | (apply condNF; · assumption)); conv => whnf)
    exact ⟨⟨_, trivial, rfl⟩, rfl⟩
  · conv => whnf
    repeat ((first | (apply guardI; · rfl) | (apply condT; · assumption) | (apply condF; · assumption) | (apply condNT; · assumption) | (apply condNF; · assumption)); conv => whnf)
    first | refine condGF (fun h2 => ?_) (fun h2 => ?_) | ((refine condI (fun h2 => ?_) (fun h2 => ?_)) <;> (try simp only [cond_true] at h2))
    · conv => whnf
      repeat ((first | (apply guardI; · rfl) | (apply condT; · assumption) | (apply condF; · assumption) | (apply condNT; · assumption) | (apply condNF; · assumption)); conv => whnf)
      exact ⟨⟨_, trivial, rfl⟩, rfl⟩
    · conv => whnf
      repeat ((first | (apply guardI; · rfl) | (apply condT; · assumption) | (apply condF; · assumption) | (apply condNT; · assumption) | (apply condNF; · assumption)); conv => whnf)
      refine ⟨fun n st => ∃ (i : Nat) (es : List (D × Val)), i ≤ s.length ∧ n = s.length - i ∧ Keys es ∧ st = st64 s es i, s.length, ⟨0, [], by omega, rfl, by simp [Keys], ?_⟩, ?_⟩
      · exact congrArg (fun k => (mkS [(3, .map 0), (15, .d (sD s)), (16, .d (int k)), (17, .d (int 0))] [.map []] : St)) (by simp)
      rintro _ _ ⟨i, es, hi, rfl, hes, rfl⟩
      conv => whnf
      repeat ((first | (apply guardI; · rfl) | (apply condT; · assumption) | (apply condF; · assumption) | (apply condNT; · assumption) | (apply condNF; · assumption)); conv => whnf)
      first | refine condGF (fun h3 => ?_) (fun h3 => ?_) | ((refine condI (fun h3 => ?_) (fun h3 => ?_)) <;> (try simp only [cond_true] at h3))
      · conv => whnf
        repeat ((first | (apply guardI; · rfl) | (apply condT; · assumption) | (apply condF; · assumption) | (apply condNT; · assumption) | (apply condNF; · assumption)); conv => whnf)
        have h' : i < s.length := by simpa using h3
        refine ⟨by simp [h'], ?_⟩
        rw [getD_map (f := Co.d) (d := .nilp) h']
        conv => whnf
        repeat ((first | (apply guardI; · rfl) | (apply condT; · assumption) | (apply condF; · assumption) | (apply condNT; · assumption) | (apply condNF; · assumption)); conv => whnf)
        obtain ⟨b, _, hb⟩ := e74 s[i].name (hs.2 _ (List.getElem_mem h'))
        refine ⟨_, _, hb, ?_⟩
        conv => whnf
        repeat ((first | (apply guardI; · rfl) | (apply condT; · assumption) | (apply condF; · assumption) | (apply condNT; · assumption) | (apply condNF; · assumption)); conv => whnf)
        cases b
        · conv => whnf
          repeat ((first | (apply guardI; · rfl) | (apply condT; · assumption) | (apply condF; · assumption) | (apply condNT; · assumption) | (apply condNF; · assumption)); conv => whnf)
          exact ⟨⟨_, trivial, rfl⟩, rfl⟩
        · conv => whnf
          repeat ((first | (apply guardI; · rfl) | (apply condT; · assumption) | (apply condF; · assumption) | (apply condNT; · assumption) | (apply condNF; · assumption)); conv => whnf)
          first | refine condGF (fun h4 => ?_) (fun h4 => ?_) | ((refine condI (fun h4 => ?_) (fun h4 => ?_)) <;> (try simp only [cond_true] at h4))
          · conv => whnf
            repeat ((first | (apply guardI; · rfl) | (apply condT; · assumption) | (apply condF; · assumption) | (apply condNT; · assumption) | (apply condNF; · assumption)); conv => whnf)
            rcases find_str s[i].name es 0 hes with hf | ⟨j, hf, s2, hj⟩
            · rw [hf]
              conv => whnf
              repeat ((first | (apply guardI; · rfl) | (apply condT; · assumption) | (apply condF; · assumption) | (apply condNT; · assumption) | (apply condNF; · assumption)); conv => whnf)
              rw [hf]
              conv => whnf
              repeat ((first | (apply guardI; · rfl) | (apply condT; · assumption) | (apply condF; · assumption) | (apply condNT; · assumption) | (apply condNF; · assumption)); conv => whnf)
              refine ⟨s.length - (i + 1), by omega, i + 1, es ++ [(D.str s[i].name, Val.d (D.bool true))], by omega, rfl, ?_, ?_⟩
              rotate_left
              · refine (forgot_same (tm' := lt [(3, .map 0), (15, .d (sD s)), (16, .d (int s.length)), (17, .d (int (i + 1 : Nat)))]) (bx' := fun _ => none) (s' := [Ob.map (es ++ [(D.str s[i].name, Val.d (D.bool true))])]) ?_ rfl ?_ (Nat.le_refl 1))
                · exact congrArg (fun k => lt [(3, .map 0), (15, .d (sD s)), (16, .d (int s.length)), (17, .d (int k))]) (wrapB h' hs.1)
                · rfl
              intro e he
              rcases List.mem_append.1 he with he | he
              · exact hes e he
              · exact ⟨_, List.mem_singleton.1 he⟩
            · simp only [Nat.zero_add] at hf
              rw [hf]
              conv => whnf
              rw [hj]
              conv => whnf
              repeat ((first | (apply guardI; · rfl) | (apply condT; · assumption) | (apply condF; · assumption) | (apply condNT; · assumption) | (apply condNF; · assumption)); conv => whnf)
              exact ⟨⟨_, trivial, rfl⟩, rfl⟩
          · conv => whnf
            repeat ((first | (apply guardI; · rfl) | (apply condT; · assumption) | (apply condF; · assumption) | (apply condNT; · assumption) | (apply condNF; · assumption)); conv => whnf)
            first | refine condGF (fun h5 => ?_) (fun h5 => ?_) | ((refine condI (fun h5 => ?_) (fun h5 => ?_)) <;> (try simp only [cond_true] at h5))
            · conv => whnf
              repeat ((first | (apply guardI; · rfl) | (apply condT; · assumption) | (apply condF; · assumption) | (apply condNT; · assumption) | (apply condNF; · assumption)); conv => whnf)
              rcases find_str s[i].name es 0 hes with hf | ⟨j, hf, s2, hj⟩
              · rw [hf]
                conv => whnf
                repeat ((first | (apply guardI; · rfl) | (apply condT; · assumption) | (apply condF; · assumption) | (apply condNT; · assumption) | (apply condNF; · assumption)); conv => whnf)
                rw [hf]
                conv => whnf
                repeat ((first | (apply guardI; · rfl) | (apply condT; · assumption) | (apply condF; · assumption) | (apply condNT; · assumption) | (apply condNF; · assumption)); conv => whnf)
                refine ⟨s.length - (i + 1), by omega, i + 1, es ++ [(D.str s[i].name, Val.d (D.bool true))], by omega, rfl, ?_, ?_⟩
                rotate_left
                · refine (forgot_same (tm' := lt [(3, .map 0), (15, .d (sD s)), (16, .d (int s.length)), (17, .d (int (i + 1 : Nat)))]) (bx' := fun _ => none) (s' := [Ob.map (es ++ [(D.str s[i].name, Val.d (D.bool true))])]) ?_ rfl ?_ (Nat.le_refl 1))
                  · exact congrArg (fun k => lt [(3, .map 0), (15, .d (sD s)), (16, .d (int s.length)), (17, .d (int k))]) (wrapB h' hs.1)
                  · rfl
                intro e he
                rcases List.mem_append.1 he with he | he
                · exact hes e he
                · exact ⟨_, List.mem_singleton.1 he⟩
              · simp only [Nat.zero_add] at hf
                rw [hf]
                conv => whnf
                rw [hj]
                conv => whnf
                repeat ((first | (apply guardI; · rfl) | (apply condT; · assumption) | (apply condF; · assumption) | (apply condNT; · assumption) | (apply condNF; · assumption)); conv => whnf)
                exact ⟨⟨_, trivial, rfl⟩, rfl⟩
            · conv => whnf
              repeat ((first | (apply guardI; · rfl) | (apply condT; · assumption) | (apply condF; · assumption) | (apply condNT; · assumption) | (apply condNF; · assumption)); conv => whnf)
              exact ⟨⟨_, trivial, rfl⟩, rfl⟩
      · conv => whnf
        repeat ((first | (apply guardI; · rfl) | (apply condT; · assumption) | (apply condF; · assumption) | (apply condNT; · assumption) | (apply condNF; · assumption)); conv => whnf)
        exact ⟨⟨_, trivial, rfl⟩, rfl⟩

end Go.Proofs.YthalcnhgnadmlaaDoor
