/- What the checks of tables compute: rows. Conditions: none. -/
import Derived.Test.YthalcnhgnadmlaaDoorC2
set_option maxRecDepth 100000
namespace Go.Proofs.YthalcnhgnadmlaaDoor
open Go Go.Vm
attribute [local irreducible] Int.decLt Int.decLe Int.instDecidableEq IntKind.wrap instDecidableEqList

theorem totS {α : Type} {f : Nat} {vf : VF} {qs : List Val} {s s2 : Store} (mk : α → Val) (p : α → Prop) (h : Compiled Tryd.prog f vf) (hr : runF (RP Tryd.prog gl) gl vf qs s fun r s' => (∃ x, p x ∧ r = mk x) ∧ s' = s2) : ∃ x, p x ∧ VEv Tryd.prog gl f qs s (mk x) s2 := by
  obtain ⟨r, s', ⟨⟨x, hp, rfl⟩, rfl⟩, hv⟩ := h.ext hr
  exact ⟨x, hp, hv⟩

theorem wrapI {z : Int} (h1 : -4611686018427387904 < z) (h2 : z < 4611686018427387904) : IntKind.i64.wrap z = z := by
  unfold IntKind.wrap
  simp [IntKind.signed, IntKind.bits]
  omega

theorem getD_mapI {α : Type} {f : α → D} {d : D} {l : List α} {x : Int} (h : x.toNat < l.length) : (l.map f).getD (Int.toNat x) d = f l[x.toNat] := by
  rw [List.getD_eq_getElem?_getD, List.getElem?_map, List.getElem?_eq_getElem h]; rfl

def RowOk (r : List Va) : Prop := r.length < BIG ∧ ∀ v, v ∈ r → v.t.length < BIG

def FitP (s : List Co) (r : List Va) : Prop := r.length = s.length ∧ ∀ v, v ∈ r → rightB v = true

def st67 (s : List Co) (r : List Va) (n : Int) : St := mkS [(0, .d (sD s)), (17, .d (rD r)), (18, .d (int r.length)), (19, .d (int n))] []
theorem e67 (s : List Co) (r : List Va) (hs : NamesOk s) (hr : RowOk r) : ∃ b : Bool, (b = true → FitP s r) ∧ VEv Tryd.prog gl 67 [.d (sD s), .d (rD r)] [] (.d (.bool b)) [] := by
  refine tot (fun b : Bool => .d (.bool b)) _ cp67 ?_
  obtain ⟨e, _, he⟩ := e64 s hs
  conv => whnf
  repeat ((first | (apply guardI; · rfl) | (apply condT; · assumption) | (apply condF; · assumption) | (apply condNT; · assumption) | (apply condNF; · assumption)); conv => whnf)
  refine ⟨_, _, he, ?_⟩
  conv => whnf
  repeat ((first | (apply guardI; · rfl) | (apply condT; · assumption) | (apply condF; · assumption) | (apply condNT; · assumption) | (apply condNF; · assumption)); conv => whnf)
  first | refine condGF (fun h => ?_) (fun h => ?_) | ((refine condI (fun h => ?_) (fun h => ?_)) <;> (try simp only [cond_true] at h))
  · conv => whnf
    repeat ((first | (apply guardI; · rfl) | (apply condT; · assumption) | (apply condF; · assumption) | (apply condNT; · assumption) | (apply condNF; · assumption)); conv => whnf)
    exact ⟨⟨false, by simp, rfl⟩, rfl⟩
  · conv => whnf
    repeat ((first | (apply guardI; · rfl) | (apply condT; · assumption) | (apply condF; · assumption) | (apply condNT; · assumption) | (apply condNF; · assumption)); conv => whnf)
    first | refine condGF (fun h2 => ?_) (fun h2 => ?_) | ((refine condI (fun h2 => ?_) (fun h2 => ?_)) <;> (try simp only [cond_true] at h2))
    · conv => whnf
      repeat ((first | (apply guardI; · rfl) | (apply condT; · assumption) | (apply condF; · assumption) | (apply condNT; · assumption) | (apply condNF; · assumption)); conv => whnf)
      have hl : r.length = s.length := by simp at h2; omega
      refine ⟨fun n st => ∃ i : Nat, i ≤ r.length ∧ n = r.length - i ∧ (∀ j (hj : j < r.length), j < i → rightB r[j] = true) ∧ st = st67 s r i, r.length, ⟨0, by omega, rfl, by omega, ?_⟩, ?_⟩
      · exact congrArg (fun k => (mkS [(0, .d (sD s)), (17, .d (rD r)), (18, .d (int k)), (19, .d (int 0))] [] : St)) (by simp)
      rintro _ _ ⟨i, hi, rfl, hall, rfl⟩
      conv => whnf
      repeat ((first | (apply guardI; · rfl) | (apply condT; · assumption) | (apply condF; · assumption) | (apply condNT; · assumption) | (apply condNF; · assumption)); conv => whnf)
      first | refine condGF (fun h3 => ?_) (fun h3 => ?_) | ((refine condI (fun h3 => ?_) (fun h3 => ?_)) <;> (try simp only [cond_true] at h3))
      · conv => whnf
        repeat ((first | (apply guardI; · rfl) | (apply condT; · assumption) | (apply condF; · assumption) | (apply condNT; · assumption) | (apply condNF; · assumption)); conv => whnf)
        have h' : i < r.length := by simpa using h3
        have hi' : i < s.length := by omega
        refine ⟨by simp [h'], ?_⟩
        rw [getD_map (f := Va.d) (d := .nilp) h']
        conv => whnf
        repeat ((first | (apply guardI; · rfl) | (apply condT; · assumption) | (apply condF; · assumption) | (apply condNT; · assumption) | (apply condNF; · assumption)); conv => whnf)
        refine ⟨_, _, e71 r[i] (hr.2 _ (List.getElem_mem h')), ?_⟩
        conv => whnf
        repeat ((first | (apply guardI; · rfl) | (apply condT; · assumption) | (apply condF; · assumption) | (apply condNT; · assumption) | (apply condNF; · assumption)); conv => whnf)
        cases hb : rightB r[i]
        · conv => whnf
          repeat ((first | (apply guardI; · rfl) | (apply condT; · assumption) | (apply condF; · assumption) | (apply condNT; · assumption) | (apply condNF; · assumption)); conv => whnf)
          exact ⟨⟨false, by simp, rfl⟩, rfl⟩
        · conv => whnf
          repeat ((first | (apply guardI; · rfl) | (apply condT; · assumption) | (apply condF; · assumption) | (apply condNT; · assumption) | (apply condNF; · assumption)); conv => whnf)
          have next : ∀ k, k = ((i + 1 : Nat) : Int) → ∃ m, m < r.length - i ∧ ∃ i', i' ≤ r.length ∧ m = r.length - i' ∧ (∀ j (hj : j < r.length), j < i' → rightB r[j] = true) ∧ st67 s r k = st67 s r i' := by
            intro k hk
            refine ⟨r.length - (i + 1), by omega, i + 1, by omega, rfl, ?_, by rw [hk]⟩
            intro j hj hj2
            by_cases hje : j = i
            · subst hje; exact hb
            · exact hall j hj (by omega)
          first | refine condGF (fun h4 => ?_) (fun h4 => ?_) | ((refine condI (fun h4 => ?_) (fun h4 => ?_)) <;> (try simp only [cond_true] at h4))
          · conv => whnf
            repeat ((first | (apply guardI; · rfl) | (apply condT; · assumption) | (apply condF; · assumption) | (apply condNT; · assumption) | (apply condNF; · assumption)); conv => whnf)
            exact next _ (wrapB h' hr.1)
          · conv => whnf
            repeat ((first | (apply guardI; · rfl) | (apply condT; · assumption) | (apply condF; · assumption) | (apply condNT; · assumption) | (apply condNF; · assumption)); conv => whnf)
            refine ⟨by simp [hi'], ?_⟩
            rw [getD_map (f := Co.d) (d := .nilp) hi']
            conv => whnf
            repeat ((first | (apply guardI; · rfl) | (apply condT; · assumption) | (apply condF; · assumption) | (apply condNT; · assumption) | (apply condNF; · assumption)); conv => whnf)
            first | refine condGF (fun h5 => ?_) (fun h5 => ?_) | ((refine condI (fun h5 => ?_) (fun h5 => ?_)) <;> (try simp only [cond_true] at h5))
            · conv => whnf
              repeat ((first | (apply guardI; · rfl) | (apply condT; · assumption) | (apply condF; · assumption) | (apply condNT; · assumption) | (apply condNF; · assumption)); conv => whnf)
              exact next _ (wrapB h' hr.1)
            · conv => whnf
              repeat ((first | (apply guardI; · rfl) | (apply condT; · assumption) | (apply condF; · assumption) | (apply condNT; · assumption) | (apply condNF; · assumption)); conv => whnf)
              exact ⟨⟨false, by simp, rfl⟩, rfl⟩
      · conv => whnf
        repeat ((first | (apply guardI; · rfl) | (apply condT; · assumption) | (apply condF; · assumption) | (apply condNT; · assumption) | (apply condNF; · assumption)); conv => whnf)
        refine ⟨⟨true, fun _ => ⟨hl, fun v hv => ?_⟩, rfl⟩, rfl⟩
        obtain ⟨j, hj, rfl⟩ := List.getElem_of_mem hv
        exact hall j hj (by simp at h3; omega)
    · conv => whnf
      repeat ((first | (apply guardI; · rfl) | (apply condT; · assumption) | (apply condF; · assumption) | (apply condNT; · assumption) | (apply condNF; · assumption)); conv => whnf)
      exact ⟨⟨false, by simp, rfl⟩, rfl⟩

noncomputable def fitsB (s : List Co) (r : List Va) : Bool := Classical.epsilon fun b => (b = true → FitP s r) ∧ VEv Tryd.prog gl 67 [.d (sD s), .d (rD r)] [] (.d (.bool b)) []
theorem fitsB_ok {s : List Co} {r : List Va} (hs : NamesOk s) (hr : RowOk r) : (fitsB s r = true → FitP s r) ∧ VEv Tryd.prog gl 67 [.d (sD s), .d (rD r)] [] (.d (.bool (fitsB s r))) [] :=
  Classical.epsilon_spec (e67 s r hs hr)

theorem e66 (s : List Co) (r : List Va) (hs : NamesOk s) (hr : RowOk r) : VEv Tryd.prog gl 66 [.d (rD r), .ptr 0 0] [.box [.d (sD s)]] (.d (.bool (!fitsB s r))) [.box [.d (sD s)]] := by
  refine cp66.vev ?_
  conv => whnf
  repeat ((first | (apply guardI; · rfl) | (apply condT; · assumption) | (apply condF; · assumption) | (apply condNT; · assumption) | (apply condNF; · assumption)); conv => whnf)
  refine ⟨_, _, (fitsB_ok hs hr).2, ?_⟩
  conv => whnf
  repeat ((first | (apply guardI; · rfl) | (apply condT; · assumption) | (apply condF; · assumption) | (apply condNT; · assumption) | (apply condNF; · assumption)); conv => whnf)
  first | exact ⟨rfl, rfl⟩ | exact rfl

def RowsOk (l : List (List Va)) : Prop := l.length < BIG ∧ ∀ r, r ∈ l → RowOk r

def st75 (s : List Co) (l : List (List Va)) (n : Int) : St := mkS [(0, .d (rsD l)), (1, .func 66 [] [.ptr 0 0]), (7, .d (int l.length)), (8, .d (int n))] [.box [.d (sD s)]]
theorem e75 (s : List Co) (l : List (List Va)) (hs : NamesOk s) (hl : RowsOk l) : ∃ e : Int, (e < 0 → ∀ r, r ∈ l → fitsB s r = true) ∧ VEv Tryd.prog gl 75 [.d (rsD l), .func 66 [] [.ptr 0 0]] [.box [.d (sD s)]] (.d (int e)) [.box [.d (sD s)]] := by
  refine totS (fun e : Int => .d (int e)) _ cp75 ?_
  conv => whnf
  repeat ((first | (apply guardI; · rfl) | (apply condT; · assumption) | (apply condF; · assumption) | (apply condNT; · assumption) | (apply condNF; · assumption)); conv => whnf)
  refine ⟨fun n st => ∃ i : Nat, i ≤ l.length ∧ n = l.length - i ∧ (∀ j (hj : j < l.length), j < i → fitsB s l[j] = true) ∧ st = st75 s l i, l.length, ⟨0, by omega, rfl, by omega, ?_⟩, ?_⟩
  · exact congrArg (fun k => (mkS [(0, .d (rsD l)), (1, .func 66 [] [.ptr 0 0]), (7, .d (int k)), (8, .d (int 0))] [.box [.d (sD s)]] : St)) (by simp)
  rintro _ _ ⟨i, hi, rfl, hall, rfl⟩
  conv => whnf
  repeat ((first | (apply guardI; · rfl) | (apply condT; · assumption) | (apply condF; · assumption) | (apply condNT; · assumption) | (apply condNF; · assumption)); conv => whnf)
  first | refine condGF (fun h => ?_) (fun h => ?_) | ((refine condI (fun h => ?_) (fun h => ?_)) <;> (try simp only [cond_true] at h))
  · conv => whnf
    repeat ((first | (apply guardI; · rfl) | (apply condT; · assumption) | (apply condF; · assumption) | (apply condNT; · assumption) | (apply condNF; · assumption)); conv => whnf)
    have h' : i < l.length := by simpa using h
    refine ⟨by simp [h'], ?_⟩
    rw [getD_map (f := rD) (d := .nilp) h']
    conv => whnf
    repeat ((first | (apply guardI; · rfl) | (apply condT; · assumption) | (apply condF; · assumption) | (apply condNT; · assumption) | (apply condNF; · assumption)); conv => whnf)
    refine ⟨_, _, e66 s l[i] hs (hl.2 _ (List.getElem_mem h')), ?_⟩
    conv => whnf
    repeat ((first | (apply guardI; · rfl) | (apply condT; · assumption) | (apply condF; · assumption) | (apply condNT; · assumption) | (apply condNF; · assumption)); conv => whnf)
    first | refine condGF (fun hb => ?_) (fun hb => ?_) | ((refine condI (fun hb => ?_) (fun hb => ?_)) <;> (try simp only [cond_true] at hb))
    · conv => whnf
      repeat ((first | (apply guardI; · rfl) | (apply condT; · assumption) | (apply condF; · assumption) | (apply condNT; · assumption) | (apply condNF; · assumption)); conv => whnf)
      refine ⟨l.length - (i + 1), by omega, i + 1, by omega, rfl, ?_, congrArg (st75 s l) (wrapB h' hl.1)⟩
      intro j hj hj2
      by_cases hje : j = i
      · subst hje; exact hb
      · exact hall j hj (by omega)
    · conv => whnf
      repeat ((first | (apply guardI; · rfl) | (apply condT; · assumption) | (apply condF; · assumption) | (apply condNT; · assumption) | (apply condNF; · assumption)); conv => whnf)
      exact ⟨⟨i, by omega, rfl⟩, rfl⟩
  · conv => whnf
    repeat ((first | (apply guardI; · rfl) | (apply condT; · assumption) | (apply condF; · assumption) | (apply condNT; · assumption) | (apply condNF; · assumption)); conv => whnf)
    refine ⟨⟨-1, fun _ r hr => ?_, rfl⟩, rfl⟩
    obtain ⟨j, hj, rfl⟩ := List.getElem_of_mem hr
    exact hall j hj (by simp at h; omega)

theorem e65 (s : List Co) (l : List (List Va)) (hs : NamesOk s) (hl : RowsOk l) : ∃ b : Bool, (b = false → ∀ r, r ∈ l → fitsB s r = true) ∧ VEv Tryd.prog gl 65 [.d (rsD l), .func 66 [] [.ptr 0 0]] [.box [.d (sD s)]] (.d (.bool b)) [.box [.d (sD s)]] := by
  refine totS (fun b : Bool => .d (.bool b)) _ cp65 ?_
  obtain ⟨e, h1, h2⟩ := e75 s l hs hl
  conv => whnf
  repeat ((first | (apply guardI; · rfl) | (apply condT; · assumption) | (apply condF; · assumption) | (apply condNT; · assumption) | (apply condNF; · assumption)); conv => whnf)
  refine ⟨_, _, h2, ?_⟩
  conv => whnf
  repeat ((first | (apply guardI; · rfl) | (apply condT; · assumption) | (apply condF; · assumption) | (apply condNT; · assumption) | (apply condNF; · assumption)); conv => whnf)
  exact ⟨⟨decide (0 ≤ e), fun h => h1 (by simpa using h), rfl⟩, rfl⟩

theorem e53 (s : List Co) (l : List (List Va)) (hs : NamesOk s) (hl : RowsOk l) : ∃ e : Int, (e = 0 → ∀ r, r ∈ l → FitP s r) ∧ VEv Tryd.prog gl 53 [.d (sD s), .d (rsD l)] [] (.d (int e)) [] := by
  refine tot (fun e : Int => .d (int e)) _ cp53 ?_
  obtain ⟨e, _, he⟩ := e64 s hs
  obtain ⟨b, h1, h2⟩ := e65 s l hs hl
  conv => whnf
  repeat ((first | (apply guardI; · rfl) | (apply condT; · assumption) | (apply condF; · assumption) | (apply condNT; · assumption) | (apply condNF; · assumption)); conv => whnf)
  refine ⟨_, _, he, ?_⟩
  conv => whnf
  repeat ((first | (apply guardI; · rfl) | (apply condT; · assumption) | (apply condF; · assumption) | (apply condNT; · assumption) | (apply condNF; · assumption)); conv => whnf)
  first | refine condGF (fun h => ?_) (fun h => ?_) | ((refine condI (fun h => ?_) (fun h => ?_)) <;> (try simp only [cond_true] at h))
  · conv => whnf
    repeat ((first | (apply guardI; · rfl) | (apply condT; · assumption) | (apply condF; · assumption) | (apply condNT; · assumption) | (apply condNF; · assumption)); conv => whnf)
    first | refine condGF (fun h3 => ?_) (fun h3 => ?_) | ((refine condI (fun h3 => ?_) (fun h3 => ?_)) <;> (try simp only [cond_true] at h3))
    · conv => whnf
      repeat ((first | (apply guardI; · rfl) | (apply condT; · assumption) | (apply condF; · assumption) | (apply condNT; · assumption) | (apply condNF; · assumption)); conv => whnf)
      exact ⟨⟨31, by omega, rfl⟩, rfl⟩
    · conv => whnf
      repeat ((first | (apply guardI; · rfl) | (apply condT; · assumption) | (apply condF; · assumption) | (apply condNT; · assumption) | (apply condNF; · assumption)); conv => whnf)
      refine ⟨_, _, h2, ?_⟩
      conv => whnf
      repeat ((first | (apply guardI; · rfl) | (apply condT; · assumption) | (apply condF; · assumption) | (apply condNT; · assumption) | (apply condNF; · assumption)); conv => whnf)
      cases b
      · conv => whnf
        repeat ((first | (apply guardI; · rfl) | (apply condT; · assumption) | (apply condF; · assumption) | (apply condNT; · assumption) | (apply condNF; · assumption)); conv => whnf)
        exact ⟨⟨0, fun _ r hr => (fitsB_ok hs (hl.2 r hr)).1 (h1 rfl r hr), rfl⟩, rfl⟩
      · conv => whnf
        repeat ((first | (apply guardI; · rfl) | (apply condT; · assumption) | (apply condF; · assumption) | (apply condNT; · assumption) | (apply condNF; · assumption)); conv => whnf)
        exact ⟨⟨12, by omega, rfl⟩, rfl⟩
  · conv => whnf
    repeat ((first | (apply guardI; · rfl) | (apply condT; · assumption) | (apply condF; · assumption) | (apply condNT; · assumption) | (apply condNF; · assumption)); conv => whnf)
    exact ⟨⟨e, fun h0 => absurd h0 (of_decide_eq_false h), rfl⟩, rfl⟩

end Go.Proofs.YthalcnhgnadmlaaDoor
