/- Part of a small abstract machine over the kit. Conditions: none. -/
import Derived.Test.YthalcnhgnadmlaaDoorV3
import Derived.Test.YthalcnhgnadmlaaDoorV2
import Derived.Laws.Externs
import Derived.Lib.Bytealg
import Derived.KernelRfl
import Derived.Orders
import Derived.Deep.LoopGhost
import Derived.RangeFuncLeaves
import Derived.RangeFuncRecord
section
/- Calls: what the callee gets, and what comes back. Conditions: none. -/
namespace Go.Vm

section
variable {P : Program} {gl : Nat → List D} {n0 nt : Nat} {a : Act} {w w' : World} {G G' : Gh} {ρ ρ' : List Nat} {lam lam' : Nat → Option Nat} {st st' : St} {K : St → Prop} {o : Oper} {Q : Exit → Act → World → Prop}

theorem elemB_iff {i : Nat} : ∀ {l : List Nat}, elemB i l = true ↔ i ∈ l
  | [] => by simp [elemB]
  | j :: l => by
    simp only [elemB, List.mem_cons]
    cases h : Nat.beq i j with
    | true => simp [Nat.eq_of_beq_eq_true h]
    | false =>
      have : i ≠ j := by rintro rfl; rw [Nat.beq_refl] at h; simp at h
      simp [this, elemB_iff (l := l)]

theorem idxIn_get {i : Nat} : ∀ {l : List Nat}, i ∈ l → l[idxIn i l]? = some i
  | [], h => by simp at h
  | j :: l, h => by
    simp only [idxIn]
    cases hb : Nat.beq i j with
    | true => simp [Nat.eq_of_beq_eq_true hb]
    | false =>
      have : i ≠ j := by rintro rfl; rw [Nat.beq_refl] at hb; simp at hb
      simp only [List.mem_cons, this, false_or] at h
      simp only [cond_false, List.getElem?_cons_succ]
      exact idxIn_get h

theorem nodupB_get : ∀ {l : List Nat} {i k : Nat}, nodupB l = true → l[k]? = some i → idxIn i l = k
  | [], i, k, _, h => by simp at h
  | j :: l, i, k, hn, h => by
    simp only [nodupB, Bool.and_eq_true, Bool.not_eq_true'] at hn
    simp only [idxIn]
    cases k with
    | zero =>
      simp only [List.getElem?_cons_zero, Option.some.injEq] at h
      subst h
      simp
    | succ k =>
      simp only [List.getElem?_cons_succ] at h
      have hm : i ∈ l := List.mem_of_getElem? h
      have hne : i ≠ j := by rintro rfl; rw [elemB_iff.2 hm] at hn; simp at hn
      have hb : Nat.beq i j = false := by rw [Bool.eq_false_iff]; intro h'; exact hne (Nat.eq_of_beq_eq_true h')
      simp only [hb, cond_false, nodupB_get hn.2 h]

/-! ### Other numbers for the objects -/

theorem ren_rel {f : Nat → Nat} (hk : Keeps w G w' G') : ∀ (n : Nat) {v : Value} {x : Val}, RelA w G ρ v x → (∀ i b, i ∈ refs n x → ρ[i]? = some b → ρ'[f i]? = some b) → RelA w' G' ρ' v (ren f n x) := by
  intro n
  induction n with
  | zero =>
    intro v x h hr
    cases h with
    | undef v => exact .undef v
    | d v y h => exact .d v y (h.keep hk)
    | nil a sz => exact .nil a sz
    | ptr i off b h => exact .ptr _ _ _ (hr i b (by simp [refs]) h)
    | map i b h => exact .map _ _ (hr i b (by simp [refs]) h)
    | sl i off len cap sz b h => exact .sl _ _ _ _ _ _ (hr i b (by simp [refs]) h)
    | func _ _ _ _ _ _ _ => exact .undef _
    | agg _ _ _ => exact .undef _
    | tuple _ _ _ => exact .undef _
    | yl _ _ _ => exact .undef _
  | succ n ih =>
    have ihL : ∀ {vs : List Value} {xs : List Val}, RelL w G ρ vs xs → (∀ i b, i ∈ xs.flatMap (refs n) → ρ[i]? = some b → ρ'[f i]? = some b) → RelL w' G' ρ' vs (xs.map (ren f n)) := by
      intro vs
      induction vs with
      | nil => intro xs h _; cases h; exact .nil
      | cons v vs ihv =>
        intro xs h hr
        cases h with
        | cons _ x _ xs h1 h2 =>
          exact .cons _ _ _ _ (ih h1 fun i b hi hb => hr i b (by simp [hi]) hb) (ihv h2 fun i b hi hb => hr i b (by simp only [List.flatMap_cons, List.mem_append]; exact .inr hi) hb)
    intro v x h hr
    cases h with
    | undef v => exact .undef v
    | d v y h => exact .d v y (h.keep hk)
    | nil a sz => exact .nil a sz
    | ptr i off b h => exact .ptr _ _ _ (hr i b (by simp [refs]) h)
    | map i b h => exact .map _ _ (hr i b (by simp [refs]) h)
    | sl i off len cap sz b h => exact .sl _ _ _ _ _ _ (hr i b (by simp [refs]) h)
    | func g as cs a c h1 h2 =>
      refine .func _ _ _ _ _ (ihL h1 fun i b hi hb => hr i b ?_ hb) (ihL h2 fun i b hi hb => hr i b ?_ hb)
      · simp only [refs, List.flatMap_append, List.mem_append]; exact .inl hi
      · simp only [refs, List.flatMap_append, List.mem_append]; exact .inr hi
    | agg vs cs h => exact .agg _ _ (ihL h fun i b hi hb => hr i b (by simpa [refs] using hi) hb)
    | tuple vs cs h => exact .tuple _ _ (ihL h fun i b hi hb => hr i b (by simpa [refs] using hi) hb)
    | yl _ _ _ => exact .undef _

theorem ren_relV {f : Nat → Nat} {L L' : Loc} {n : Nat} (hk : Keeps w G w' G') (hs : SameL L L' w G w' G') {v : Value} {x : Val} (h : RelV w G ρ L v x) (hr : ∀ i b, i ∈ refs n x → ρ[i]? = some b → ρ'[f i]? = some b) : RelV w' G' ρ' L' v (ren f n x) := by
  rcases h.cases with h | ⟨sz, d, l, rfl, h⟩
  · exact .of_A (ren_rel hk n h hr)
  · have : ren f n (.own sz (d :: l)) = .own sz (d :: l) := by cases n <;> rfl
    rw [this]
    exact OwnRel.tr hk hs h

theorem ren_relL {f : Nat → Nat} {n : Nat} (hk : Keeps w G w' G') : ∀ {vs : List Value} {xs : List Val}, RelL w G ρ vs xs → (∀ i b, i ∈ xs.flatMap (refs n) → ρ[i]? = some b → ρ'[f i]? = some b) → RelL w' G' ρ' vs (xs.map (ren f n))
  | [], _, h, _ => by cases h; exact .nil
  | v :: vs, _, h, hr => by
    cases h with
    | cons _ x _ xs h1 h2 =>
      exact .cons _ _ _ _ (ren_rel hk n h1 fun i b hi hb => hr i b (by simp [hi]) hb) (ren_relL hk h2 fun i b hi hb => hr i b (by simp only [List.flatMap_cons, List.mem_append]; exact .inr hi) hb)

theorem ren_relO {f : Nat → Nat} {i j b : Nat} {ob : Ob} (hk : Keeps w G w' G') (hs : SameL (.obj i) (.obj j) w G w' G') (hc : ∀ q, SameL (.ocell i q) (.ocell j q) w G w' G') (h : RelO w G ρ i b ob)
    (hr : ∀ i b, i ∈ ob.refs → ρ[i]? = some b → ρ'[f i]? = some b) : RelO w' G' ρ' j b (ob.ren f) := by
  cases ob with
  | dead => trivial
  | box cs =>
    obtain ⟨c, E, fz, h1, h2, h3, h4, h5⟩ := h
    obtain ⟨e1, e2⟩ := hs _ _ h3
    refine ⟨c, E, fz, e1.trans h1, h2, e2, by simpa using h4, ?_⟩
    intro q v x hv hx
    simp only [List.getElem?_map, Option.map_eq_some_iff] at hx
    obtain ⟨y, hy, rfl⟩ := hx
    exact ren_relV hk (hc q) (h5 q v y hv hy) fun i b hi hb => hr i b (List.mem_flatMap.2 ⟨y, List.mem_of_getElem? hy, hi⟩) hb
  | map es =>
    obtain ⟨mes, clock, h1, h2, h3, h4⟩ := h
    obtain ⟨e1, e2⟩ := hs _ _ h2
    refine ⟨mes, clock, e1.trans h1, e2, by simpa using h3, ?_⟩
    intro q e p he hp
    simp only [List.getElem?_map, Option.map_eq_some_iff] at hp
    obtain ⟨y, hy, rfl⟩ := hp
    exact ⟨(h4 q e y he hy).1.keep hk, ren_rel hk depth (h4 q e y he hy).2 fun i b hi hb => hr i b (List.mem_flatMap.2 ⟨y, List.mem_of_getElem? hy, hi⟩) hb⟩

/-! ### Merging -/

theorem merge_length : ∀ {ids : List Nat} {s : Store} {l : List Ob}, ids.length ≤ l.length → (merge s ids l).length = s.length + (l.length - ids.length)
  | [], s, [], _ => by simp [merge]
  | [], s, o :: l, _ => by simp [merge]
  | _ :: _, _, [], h => by simp at h
  | i :: ids, s, o :: l, h => by
    simp only [merge]
    rw [merge_length (by simpa using h)]
    simp

/-- What stands behind a merge. -/
theorem merge_get : ∀ {ids : List Nat} {s : Store} {l : List Ob} {i : Nat} {ob : Ob}, ids.length ≤ l.length → nodupB ids = true → (∀ j, j ∈ ids → j < s.length) → (merge s ids l)[i]? = some ob →
    (∃ k : Nat, ids[k]? = some i ∧ l[k]? = some ob) ∨ (i ∉ ids ∧ i < s.length ∧ s[i]? = some ob) ∨ (s.length ≤ i ∧ l[ids.length + (i - s.length)]? = some ob)
  | [], s, [], i, ob, _, _, _, h => by
    simp only [merge] at h
    right; left
    refine ⟨by simp, ?_, h⟩
    rcases Nat.lt_or_ge i s.length with h' | h'
    · exact h'
    · rw [List.getElem?_eq_none h'] at h; simp at h
  | [], s, o :: l, i, ob, _, _, _, h => by
    simp only [merge] at h
    rcases Nat.lt_or_ge i s.length with h' | h'
    · rw [List.getElem?_append_left h'] at h
      exact .inr (.inl ⟨by simp, h', h⟩)
    · rw [List.getElem?_append_right h'] at h
      exact .inr (.inr ⟨h', by simpa using h⟩)
  | _ :: _, _, [], _, _, h, _, _, _ => by simp at h
  | j :: ids, s, o :: l, i, ob, hl, hn, hs, h => by
    simp only [merge] at h
    simp only [nodupB, Bool.and_eq_true, Bool.not_eq_true'] at hn
    have hjl := hs j (by simp)
    rcases merge_get (by simpa using hl) hn.2 (fun q hq => by rw [List.length_set]; exact hs q (by simp [hq])) h with ⟨k, h1, h2⟩ | ⟨h1, h2, h3⟩ | ⟨h1, h2⟩
    · exact .inl ⟨k + 1, by simpa using h1, by simpa using h2⟩
    · rw [List.length_set] at h2
      by_cases hij : i = j
      · subst hij
        rw [List.getElem?_set_self hjl] at h3
        exact .inl ⟨0, by simp, by simpa using h3⟩
      · rw [List.getElem?_set_ne (Ne.symm hij)] at h3
        exact .inr (.inl ⟨by simp [hij, h1], h2, h3⟩)
    · rw [List.length_set] at h1 h2
      refine .inr (.inr ⟨h1, ?_⟩)
      rw [List.length_cons, show ids.length + 1 + (i - s.length) = (ids.length + (i - s.length)) + 1 by omega, List.getElem?_cons_succ]
      exact h2

end
end Go.Vm
end

section
/- Calls, at operations. Conditions: none. -/
namespace Go.Vm

section
variable {P : Program} {gl : Nat → List D} {n0 nt : Nat} {a : Act} {w w' : World} {G G' : Gh} {ρ ρ' : List Nat} {lam lam' : Nat → Option Nat} {st st' : St} {K : St → Prop} {o : Oper} {Q : Exit → Act → World → Prop}

/-- The caller's owners, as the callee sees them. -/
def subL (ids : List Nat) : Loc → Loc
  | .obj i => cond (elemB i ids) (.obj (idxIn i ids)) .foreign
  | .ocell i q => cond (elemB i ids) (.ocell (idxIn i ids) q) .foreign
  | _ => .foreign

/-- The callee's owners, as the caller sees them; 'D': who gets what is returned. -/
def bakL (ids : List Nat) (len : Nat) (D : Loc) : Loc → Loc
  | .obj j => .obj (back ids len j)
  | .ocell j q => .ocell (back ids len j) q
  | .res => D
  | _ => .res

def backG (ids : List Nat) (len : Nat) (D : Loc) (n : Nat) (G G1 : Gh) : Gh := fun b =>
  if b < n then match G b with
    | none => none
    | some (L, m) => if subL ids L = .foreign then some (L, m) else (G1 b).map fun p => (bakL ids len D p.1, p.2)
  else (G1 b).map fun p => (bakL ids len D p.1, p.2)

theorem bakL_ne {ids : List Nat} {len : Nat} {D L : Loc} (hD : D ≠ .foreign) : bakL ids len D L ≠ .foreign := by
  cases L <;> simp [bakL, hD]

section
variable {ids : List Nat} {len : Nat} {D : Loc} {G1 : Gh} (hgood : Good w (relab (subL ids) G) w' G1) (hlt : ∀ b L n, G b = some (L, n) → b < w.heap.size)
 include hgood

theorem backG_of {b : Nat} {L : Loc} {n : Nat} (h : G1 b = some (L, n)) (hL : L ≠ .foreign) : backG ids len D w.heap.size G G1 b = some (bakL ids len D L, n) := by
  unfold backG
  split
  · rename_i hb
    cases hg : G b with
    | none =>
      have := (hgood.imm b hb (.inl (by simp [relab, hg]))).2
      rw [h] at this
      simp [relab, hg] at this
    | some p =>
      obtain ⟨L0, m⟩ := p
      simp only
      split
      · rename_i hf
        have hr : relab (subL ids) G b = some (.foreign, m) := by simp [relab, hg, hf]
        have := (hgood.imm b hb (.inr ⟨m, hr⟩)).2
        rw [h, hr] at this
        simp only [Option.some.injEq, Prod.mk.injEq] at this
        exact absurd this.1 hL
      · simp [h]
  · simp [h]

theorem backG_same {L : Loc} (hL : L ≠ .foreign) : SameL L (bakL ids len D L) w' G1 w' (backG ids len D w.heap.size G G1) :=
  fun _ _ h => ⟨rfl, backG_of hgood h hL⟩

theorem backG_keep1 : Keeps w' G1 w' (backG ids len D w.heap.size G G1) := by
  intro b off v h
  refine ⟨h.1, ?_, h.2.2⟩
  intro L n hG
  unfold backG at hG
  split at hG
  · rename_i hb
    cases hg : G b with
    | none => simp [hg] at hG
    | some p =>
      obtain ⟨L0, m⟩ := p
      simp only [hg] at hG
      split at hG
      · rename_i hf
        simp only [Option.some.injEq, Prod.mk.injEq] at hG
        obtain ⟨rfl, rfl⟩ := hG
        have hr : relab (subL ids) G b = some (.foreign, m) := by simp [relab, hg, hf]
        have := (hgood.imm b hb (.inr ⟨m, hr⟩)).2
        rw [hr] at this
        exact h.2.1 _ _ this
      · cases h1 : G1 b with
        | none => simp [h1] at hG
        | some q =>
          simp only [h1, Option.map_some, Option.some.injEq, Prod.mk.injEq] at hG
          obtain ⟨_, rfl⟩ := hG
          exact h.2.1 _ _ h1
  · cases h1 : G1 b with
    | none => simp [h1] at hG
    | some q =>
      simp only [h1, Option.map_some, Option.some.injEq, Prod.mk.injEq] at hG
      obtain ⟨_, rfl⟩ := hG
      exact h.2.1 _ _ h1

theorem backG_keep : Keeps w G w' (backG ids len D w.heap.size G G1) := fun _ _ _ h => backG_keep1 hgood _ _ _ (hgood.keep _ _ _ (relab_keeps (subL ids) _ _ _ h))

 include hlt
theorem backG_own {L : Loc} (hL : subL ids L = .foreign) : SameL L L w G w' (backG ids len D w.heap.size G G1) := by
  intro b n h
  have hb := hlt _ _ _ h
  have hr : relab (subL ids) G b = some (.foreign, n) := by simp [relab, h, hL]
  refine ⟨(hgood.imm b hb (.inr ⟨n, hr⟩)).1, ?_⟩
  simp [backG, hb, h, hL]

 omit hlt in
theorem backG_good (hD : D ≠ .foreign) : Good w G w' (backG ids len D w.heap.size G G1) where
  size := hgood.size
  imm b hb h := by
    rcases h with h | ⟨n, h⟩
    · exact ⟨(hgood.imm b hb (.inl (by simp [relab, h]))).1, by simp [backG, hb, h]⟩
    · have hr : relab (subL ids) G b = some (.foreign, n) := by simp [relab, h, subL]
      exact ⟨(hgood.imm b hb (.inr ⟨n, hr⟩)).1, by simp [backG, hb, h, subL]⟩
  new b n hb h := by
    unfold backG at h
    rw [if_neg (Nat.not_lt.2 hb)] at h
    cases h1 : G1 b with
    | none => simp [h1] at h
    | some q =>
      simp only [h1, Option.map_some, Option.some.injEq, Prod.mk.injEq] at h
      exact bakL_ne hD h.1
  old b n hb h := by
    unfold backG at h
    rw [if_pos hb] at h
    cases hg : G b with
    | none => simp [hg] at h
    | some p =>
      obtain ⟨L0, m⟩ := p
      simp only [hg] at h
      split at h
      · exact h
      · cases h1 : G1 b with
        | none => simp [h1] at h
        | some q =>
          simp only [h1, Option.map_some, Option.some.injEq, Prod.mk.injEq] at h
          exact absurd h.1 (bakL_ne hD)
  keep := backG_keep hgood
  os := hgood.os
  out := hgood.out

 omit hlt in
theorem backG_lt (hlt1 : ∀ b L n, G1 b = some (L, n) → b < w'.heap.size) : ∀ b L n, backG ids len D w.heap.size G G1 b = some (L, n) → b < w'.heap.size := by
  intro b L n h
  rcases Nat.lt_or_ge b w.heap.size with hb | hb
  · exact Nat.lt_of_lt_of_le hb hgood.size
  · unfold backG at h
    rw [if_neg (Nat.not_lt.2 hb)] at h
    cases h1 : G1 b with
    | none => simp [h1] at h
    | some q => exact hlt1 b q.1 q.2 h1
end

/-- What a call of the machine comes to, in the caller's world. -/
theorem callStep_real {f : Nat} {args : List Val} {vs : List Value} {K : Val → Store → Prop} {D : Loc} (p : RelS gl w G ρ lam a.tmps st) (hD : D ≠ .foreign) (hargs : RelL w G ρ vs args) (hs : callStep (AP P gl) f args st.s K) :
    Callable P f ∧ Calls P f ⟨vs⟩ w fun e w' => ∃ v r s' G2 ρ2, e = .returned v ∧ RelV w' G2 ρ2 D v r ∧ RelObs w' G2 ρ2 s' ∧ Good w G w' G2 ∧ (∀ i b : Nat, ρ[i]? = some b → ρ2[i]? = some b) ∧ (∀ b L n, G2 b = some (L, n) → b < w'.heap.size) ∧
      (∀ L, (∀ i q, L ≠ .obj i ∧ L ≠ .ocell i q) → L ≠ .foreign → SameL L L w G w' G2) ∧ RelG gl w' G2 ∧ K r s' := by
  unfold callStep at hs
  obtain ⟨hg, hs⟩ := hs
  simp only [Bool.and_eq_true] at hg
  obtain ⟨⟨⟨hids, hnd⟩, hcl⟩, hno⟩ := hg
  obtain ⟨r, s', hev, hlen, hK⟩ := hs
  have hlen := Nat.le_of_ble_eq_true hlen
  obtain ⟨hcall, hev⟩ := hev
  refine ⟨hcall, ?_⟩
  generalize hidd : reach st.s (st.s.length + st.s.length + 8) (args.flatMap (refs depth)) [] = ids at *
  simp only [closed, Bool.and_eq_true, List.all_eq_true, elemB_iff] at hcl
  obtain ⟨hcl1, hcl2⟩ := hcl
  have hidl : ∀ i, i ∈ ids → i < st.s.length := by
    intro i hi
    have := (List.all_eq_true.1 hids) i hi
    simpa [Nat.blt_eq] using this
  have hρl := p.ob.1
  have hρi : ∀ i, i ∈ ids → ∃ b, ρ[i]? = some b := fun i hi => ⟨_, List.getElem?_eq_getElem (by rw [hρl]; exact hidl i hi)⟩
  -- the callee's objects
  let ρs := ids.map fun i => ρ.getD i 0
  have hρs : ∀ (i b : Nat), i ∈ ids → ρ[i]? = some b → ρs[idxIn i ids]? = some b := by
    intro i b hi hb
    simp only [ρs, List.getElem?_map, idxIn_get hi, Option.map_some, List.getD_eq_getElem?_getD, hb, Option.getD_some]
  have hkrel := relab_keeps (w := w) (G := G) (subL ids)
  have hsubo : ∀ i, i ∈ ids → subL ids (.obj i) = .obj (idxIn i ids) := fun i hi => by simp [subL, elemB_iff.2 hi]
  have hsubc : ∀ i q, i ∈ ids → subL ids (.ocell i q) = .ocell (idxIn i ids) q := fun i q hi => by simp [subL, elemB_iff.2 hi]
  have hobs : RelObs w (relab (subL ids) G) ρs (ids.map fun i => (st.s.getD i .dead).ren fun i => idxIn i ids) := by
    refine ⟨by simp [ρs], ?_⟩
    intro k b ob hb hob
    simp only [ρs, List.getElem?_map, Option.map_eq_some_iff] at hb hob
    obtain ⟨i, hi, rfl⟩ := hb
    obtain ⟨i', hi', rfl⟩ := hob
    rw [hi] at hi'
    simp only [Option.some.injEq] at hi'
    subst hi'
    have him : i ∈ ids := List.mem_of_getElem? hi
    have hk := nodupB_get hnd hi
    obtain ⟨b, hb⟩ := hρi i him
    have hgd : ρ.getD i 0 = b := by rw [List.getD_eq_getElem?_getD, hb]; rfl
    rw [hgd]
    have h1 := relab_same (w := w) (G := G) (subL ids) (.obj i)
    rw [hsubo i him, hk] at h1
    refine ren_relO hkrel h1 (fun q => ?_) (p.ob.at hb) fun j b' hj hb' => hρs j b' (hcl2 i him j hj) hb'
    have h2 := relab_same (w := w) (G := G) (subL ids) (.ocell i q)
    rwa [hsubc i q him, hk] at h2
  have hargs' := ren_relL (f := fun i => idxIn i ids) (n := depth) (ρ' := ρs) hkrel hargs fun i b hi hb => hρs i b (hcl1 i hi) hb
  refine (hev w (relab (subL ids) G) ρs vs hobs (p.gb.tr hkrel) (relab_lt p.lt) hargs').mono ?_
  rintro e w' ⟨v, G1, ρ1, rfl, hr, hobs1, hlt1, hgood, hρ1, hsl⟩
  -- the numbers of the objects, back in the caller
  have hlen1 : ids.length ≤ s'.length := hlen
  have hρ1l := hobs1.1
  let ρ2 := ρ ++ ρ1.drop ids.length
  have hρ2 : ∀ i b : Nat, ρ[i]? = some b → ρ2[i]? = some b := by
    intro i b hi
    have hl : i < ρ.length := by
      rcases Nat.lt_or_ge i ρ.length with h | h
      · exact h
      · rw [List.getElem?_eq_none h] at hi; simp at hi
    simp only [ρ2]
    rw [List.getElem?_append_left hl]; exact hi
  have hback : ∀ j b : Nat, ρ1[j]? = some b → ρ2[back ids st.s.length j]? = some b := by
    intro j b hj
    unfold back
    rcases Nat.lt_or_ge j ids.length with hjl | hjl
    · rw [List.getElem?_eq_getElem hjl]
      simp only
      have him : ids[j] ∈ ids := List.getElem_mem hjl
      obtain ⟨b0, hb0⟩ := hρi _ him
      have h1 : ρs[j]? = some b0 := by
        have := hρs _ b0 him hb0
        rwa [nodupB_get hnd (List.getElem?_eq_getElem hjl)] at this
      have h2 := hρ1 _ _ h1
      rw [h2] at hj
      simp only [Option.some.injEq] at hj
      subst hj
      exact hρ2 _ _ hb0
    · rw [List.getElem?_eq_none hjl]
      simp only [ρ2]
      rw [List.getElem?_append_right (by omega), hρl, List.getElem?_drop]
      rw [show ids.length + (st.s.length + (j - ids.length) - st.s.length) = j by omega]
      exact hj
  have hk1 := backG_keep1 (len := st.s.length) (D := D) hgood
  refine ⟨v, ren (back ids st.s.length) depth r, merge st.s ids (s'.map (Ob.ren (back ids st.s.length))), backG ids st.s.length D w.heap.size G G1, ρ2, rfl, ?_, ⟨?_, ?_⟩, backG_good hgood hD, hρ2, backG_lt hgood hlt1, ?_, ?_, hK⟩
  · exact ren_relV hk1 (backG_same hgood (L := .res) (by simp)) hr fun i b _ hb => hback i b hb
  · rw [merge_length (by simpa using hlen1)]
    simp only [ρ2, List.length_append, List.length_drop, List.length_map]
    omega
  · intro i b ob hb hob
    rcases merge_get (by simpa using hlen1) hnd (fun j hj => hidl j hj) hob with ⟨k, h1, h2⟩ | ⟨h1, h2, h3⟩ | ⟨h1, h2⟩
    · -- one that the callee had
      simp only [List.getElem?_map, Option.map_eq_some_iff] at h2
      obtain ⟨ob', hob', rfl⟩ := h2
      have him : i ∈ ids := List.mem_of_getElem? h1
      obtain ⟨b0, hb0⟩ := hρi i him
      have hb' : b = b0 := by
        have := hρ2 _ _ hb0
        rw [hb] at this
        simpa using this
      subst hb'
      have hk : idxIn i ids = k := nodupB_get hnd h1
      have h3 : ρs[k]? = some b := by have := hρs i b him hb0; rwa [hk] at this
      have h4 := hobs1.2 k b ob' (hρ1 _ _ h3) hob'
      have hbk : back ids st.s.length k = i := by simp [back, h1]
      have e1 := backG_same (len := st.s.length) (D := D) hgood (L := .obj k) (by simp)
      simp only [bakL, hbk] at e1
      refine ren_relO hk1 e1 (fun q => ?_) h4 fun j b' _ hb' => hback j b' hb'
      have e2 := backG_same (len := st.s.length) (D := D) hgood (L := .ocell k q) (by simp)
      simpa only [bakL, hbk] using e2
    · -- one that it did not have
      have hb0 : ρ[i]? = some b := by
        have := List.getElem?_eq_getElem (show i < ρ.length by rw [hρl]; exact h2)
        have h4 := hρ2 _ _ this
        rw [hb] at h4
        rw [this]; exact h4.symm
      have hne : elemB i ids = false := by rw [Bool.eq_false_iff]; intro h; exact h1 (elemB_iff.1 h)
      exact (p.ob.2 i b ob hb0 h3).tr (backG_keep hgood) hρ2 (backG_own hgood p.lt (by simp [subL, hne])) (fun q => backG_own hgood p.lt (by simp [subL, hne]))
    · -- a new one
      simp only [List.getElem?_map, Option.map_eq_some_iff] at h2
      obtain ⟨ob', hob', rfl⟩ := h2
      have hbk : back ids st.s.length (ids.length + (i - st.s.length)) = i := by
        unfold back
        rw [List.getElem?_eq_none (by omega)]
        simp only
        omega
      have hb1 : ρ1[ids.length + (i - st.s.length)]? = some b := by
        simp only [ρ2] at hb
        rw [List.getElem?_append_right (by omega), hρl, List.getElem?_drop] at hb
        exact hb
      have h4 := hobs1.2 _ b ob' hb1 hob'
      have e1 := backG_same (len := st.s.length) (D := D) hgood (L := .obj (ids.length + (i - st.s.length))) (by simp)
      simp only [bakL, hbk] at e1
      refine ren_relO hk1 e1 (fun q => ?_) h4 fun j b' _ hb' => hback j b' hb'
      have e2 := backG_same (len := st.s.length) (D := D) hgood (L := .ocell (ids.length + (i - st.s.length)) q) (by simp)
      simpa only [bakL, hbk] using e2
  · intro L hL hf
    refine backG_own hgood p.lt ?_
    cases L <;> first | rfl | exact absurd rfl (hL _ 0).1 | exact absurd rfl (hL _ _).2
  · exact (p.gb.tr hkrel).tr hgood.keep |>.tr hk1

end
end Go.Vm
end

section
/- Calls as operations. Conditions: none. -/
namespace Go.Vm

section
variable {P : Program} {gl : Nat → List D} {n0 nt : Nat} {a : Act} {w w' : World} {G G' : Gh} {ρ ρ' : List Nat} {lam lam' : Nat → Option Nat} {st st' : St} {K : St → Prop} {o : Oper} {Q : Exit → Act → World → Prop}

theorem callFunc_run {f : Nat} {vs : Array Value} (h : Callable P f) : (callFunc f vs).run P w = .ok (.enter f vs) w := by
  obtain ⟨fn, h1, h2, h3⟩ := h
  have hn : fn.body ≠ none := by intro h; rw [h] at h2; simp at h2
  have h3 : fn.name ≠ "runtime.NumGoroutine" := by simpa using h3
  simp [callFunc, h1, h3, hn]

theorem call_run {f : Nat} {c : Call} {fo : Operand} {as cs : List Value} (hc : c.callee = .value fo) (hop : o.op = .call c) (hf : a.eval fo = .func (.func f) ⟨as⟩ ⟨cs⟩) (h : Callable P f) :
    (execOp a.eval o).run P w = .ok (.enter f ⟨as ++ c.args.toList.map a.eval ++ cs⟩) w := by
  have e : (#[] : Array Value) = ⟨[]⟩ := rfl
  simp only [execOp, hop, Sem.run_bind, resolve, hc, hf, Deferred.ofValue, Sem.run_pure, Result.andThen_ok, invoke]
  rw [callFunc_run h]
  congr 2
  apply Array.ext'; simp

/-- A frame's own part, behind a call. -/
theorem RelS.called {w' : World} {G2 : Gh} {ρ2 : List Nat} {s' : Store} (h : RelS gl w G ρ lam a.tmps st) (hob : RelObs w' G2 ρ2 s') (hgood : Good w G w' G2) (hρ : ∀ i b : Nat, ρ[i]? = some b → ρ2[i]? = some b)
    (hlt : ∀ b L n, G2 b = some (L, n) → b < w'.heap.size) (hs : ∀ L, (∀ i q, L ≠ .obj i ∧ L ≠ .ocell i q) → L ≠ .foreign → SameL L L w G w' G2) (hg : RelG gl w' G2) :
    RelS gl w' G2 ρ2 lam a.tmps { st with s := s' } where
  tm t := (h.tm t).tr hgood.keep hρ (fun _ _ h => h) (hs _ (fun _ _ => ⟨by simp, by simp⟩) (by simp))
  bx t cs hb := by
    obtain ⟨b, h1, h2⟩ := h.bx t cs hb
    exact ⟨b, h1, RelBox.tr hgood.keep hρ (hs _ (fun _ _ => ⟨by simp, by simp⟩) (by simp)) (fun j => hs _ (fun _ _ => ⟨by simp, by simp⟩) (by simp)) h2⟩
  nb := h.nb
  ob := hob
  gb := hg
  lt := hlt

theorem after_setO {w0 : World} {G0 : Gh} {ρ0 : List Nat} {d : Option Nat} {v : Value} {x : Val} {st : St} (h : RelS gl w G ρ lam a.tmps st) (hd0 : Marks n0 w0 G0 a.defers) (hn : nt ≤ a.tmps.size) (hdt : ∀ t, d = some t → t < nt) (hg : Good w0 G0 w G) (hρ0 : ∀ i b : Nat, ρ0[i]? = some b → ρ[i]? = some b) (hod : o.dst = d)
    (hv : ∀ t, d = some t → RelT w G ρ lam (.slot t) v x) (hK : K (st.setO d x)) : After n0 gl nt w0 G0 ρ0 K (a.put o.dst v) w := by
  cases d with
  | some t => exact after_set h hd0 hn (hdt t rfl) hg hρ0 hod (hv t rfl) hK
  | none => rw [hod]; exact after_mk hd0 rfl hn G ρ lam st h hg hρ0 hK

def dstL : Option Nat → Loc
  | some t => .slot t
  | none => .res

theorem dstL_ne (d : Option Nat) : dstL d ≠ .foreign := by cases d <;> simp [dstL]

theorem sim_call {d : Option Nat} {f : Nat} {c : Call} {fo : Operand} {as cs : List Value} {a' c' : List Val} {ys : List O} (p : Pre n0 gl nt w G ρ lam a st) (hod : o.dst = d) (hdt : ∀ t, d = some t → t < nt) (hop : o.op = .call c)
    (hc : c.callee = .value fo) (hf : a.eval fo = .func (.func f) ⟨as⟩ ⟨cs⟩) (h1 : RelL w G ρ as a') (h2 : RelL w G ρ cs c') (hx : All2 (fun x y => ∃ t, opd P t x = some y) c.args.toList ys)
    (hs : callStep (AP P gl) f (a' ++ ys.map (fun x => frz (snap (ev gl st x))) ++ c') st.s fun r s' => K ({ st with s := s' }.setO d r)) : o.wp P a w (After n0 gl nt w G ρ K) Q := by
  have hno : (ys.map fun x => frz (snap (ev gl st x))).all (noL depth) = true := by
    unfold callStep at hs
    have := hs.1
    simp only [Bool.and_eq_true] at this
    have := this.2
    simp only [List.all_append, Bool.and_eq_true] at this
    exact this.1.2
  obtain ⟨hcall, hC⟩ := callStep_real p.rel (D := dstL d) (dstL_ne d) ((h1.append (args_rel p hx hno)).append h2) hs
  unfold Oper.wp
  rw [call_run hc hop hf hcall, Oper.upon_enter]
  refine hC.mono ?_
  rintro e w' ⟨v, r, s', G2, ρ2, rfl, hr, hob, hgood, hρ, hlt, hsame, hgb, hK⟩
  have hrel := p.rel.called hob hgood hρ hlt hsame hgb
  exact after_setO hrel p.df p.sz hdt hgood hρ hod (fun t ht => by subst ht; exact .of_V hr) hK

theorem sim_cl {d : Option Nat} {c : Call} {fo : Operand} {fo' : O} {t : Nat} {ys : List O} (p : Pre n0 gl nt w G ρ lam a st) (hod : o.dst = d) (hdt : ∀ t, d = some t → t < nt) (hop : o.op = .call c)
    (hc : c.callee = .value fo) (hfo : opd P t fo = some fo') (hx : All2 (fun x y => ∃ t, opd P t x = some y) c.args.toList ys)
    (hs : step (AP P gl) gl (.cl d fo' ys) st K) : o.wp P a w (After n0 gl nt w G ρ K) Q := by
  obtain ⟨L, hf⟩ := ev_any hfo p.rel
  simp only [step] at hs
  split at hs
  · rename_i f he
    rw [he] at hf
    have hf := hf.dat
    have hf : a.eval fo = .func (.func f) ⟨[]⟩ ⟨[]⟩ := by
      generalize a.eval fo = v at hf
      cases hf; rfl
    refine sim_call (a' := []) (c' := []) p hod hdt hop hc hf .nil .nil hx ?_
    simpa using hs
  · rename_i f a0 c0 he
    rw [he] at hf
    have hf' : RelA w G ρ (a.eval fo) (.func f a0 c0) := hf
    generalize hv : a.eval fo = v at hf'
    cases hf' with
    | func _ as cs _ _ h1 h2 => exact sim_call p hod hdt hop hc hv h1 h2 hx hs
  · exact hs.elim

theorem ren_norefs {f : Nat → Nat} : ∀ (n : Nat) (x : Val), noL n x = true → refs n x = [] → ren f n x = x := by
  intro n
  induction n with
  | zero => intro x h1 h2; cases x <;> simp [noL, refs, ren] at h1 h2 ⊢
  | succ n ih =>
    have hmap : ∀ l : List Val, (∀ x, x ∈ l → noL n x = true) → (∀ x, x ∈ l → refs n x = []) → l.map (ren f n) = l := by
      intro l h1 h2
      induction l with
      | nil => rfl
      | cons x l ihl => rw [List.map_cons, ih x (h1 x (by simp)) (h2 x (by simp)), ihl (fun y hy => h1 y (by simp [hy])) (fun y hy => h2 y (by simp [hy]))]
    intro x h1 h2
    cases x with
    | func g a c =>
      simp only [noL, List.all_append, Bool.and_eq_true, List.all_eq_true] at h1
      simp only [refs, List.flatMap_append, List.append_eq_nil_iff, List.flatMap_eq_nil_iff] at h2
      simp only [ren, hmap a h1.1 h2.1, hmap c h1.2 h2.2]
    | agg cs =>
      simp only [noL, List.all_eq_true] at h1
      simp only [refs, List.flatMap_eq_nil_iff] at h2
      simp only [ren, hmap cs h1 h2]
    | tuple cs =>
      simp only [noL, List.all_eq_true] at h1
      simp only [refs, List.flatMap_eq_nil_iff] at h2
      simp only [ren, hmap cs h1 h2]
    | undef => simp [noL] at h1
    | yl i => simp [noL] at h1
    | lref t off => simp [noL] at h1
    | d x => rfl
    | own sz l => rfl
    | ptr i off => simp [refs] at h2
    | map i => simp [refs] at h2
    | sl i off len cap sz => simp [refs] at h2

theorem sim_cp {d : Option Nat} {c : Call} {f : Nat} {ys : List O} (p : Pre n0 gl nt w G ρ lam a st) (hod : o.dst = d) (hdt : ∀ t, d = some t → t < nt) (hop : o.op = .call c)
    (hc : c.callee = .value (.func f)) (hx : All2 (fun x y => ∃ t, opd P t x = some y) c.args.toList ys)
    (hs : step (AP P gl) gl (.cp d f ys) st K) : o.wp P a w (After n0 gl nt w G ρ K) Q := by
  simp only [step] at hs
  obtain ⟨hg, r, s', hev, hg2, hK⟩ := hs
  simp only [Bool.and_eq_true, List.isEmpty_iff] at hg hg2
  obtain ⟨hcall, hev⟩ := hev
  obtain ⟨hs0, _⟩ := hg2
  subst hs0
  have hf : a.eval (.func f) = .func (.func f) ⟨[]⟩ ⟨[]⟩ := rfl
  unfold Oper.wp
  rw [call_run hc hop hf hcall, Oper.upon_enter]
  have hkrel := relab_keeps (w := w) (G := G) (subL [])
  have hargs := args_rel p hx hg.2
  have hargs' : RelL w (relab (subL []) G) [] (c.args.toList.map a.eval) (ys.map fun x => frz (snap (ev gl st x))) := by
    have := ren_relL (f := id) (n := depth) (ρ' := []) hkrel hargs (fun i b hi => by rw [hg.1] at hi; simp at hi)
    have e : (ys.map fun x => frz (snap (ev gl st x))).map (ren id depth) = ys.map fun x => frz (snap (ev gl st x)) := by
      generalize hl : (ys.map fun x => frz (snap (ev gl st x))) = l at hg
      have h1 := List.all_eq_true.1 hg.2
      have h2 := List.flatMap_eq_nil_iff.1 hg.1
      clear hl hargs this
      induction l with
      | nil => rfl
      | cons x l ih =>
        rw [List.map_cons, ren_norefs depth x (h1 x (by simp)) (h2 x (by simp)), ih ⟨List.flatMap_eq_nil_iff.2 fun y hy => h2 y (by simp [hy]), List.all_eq_true.2 fun y hy => h1 y (by simp [hy])⟩ (fun y hy => h1 y (by simp [hy])) (fun y hy => h2 y (by simp [hy]))]
    rwa [e] at this
  have := hev w (relab (subL []) G) [] _ ⟨rfl, fun i b ob hb => by simp at hb⟩ (p.rel.gb.tr hkrel) (relab_lt p.rel.lt) hargs'
  simp only [List.nil_append, List.append_nil]
  refine this.mono ?_
  rintro e w' ⟨v, G1, ρ1, rfl, hr, hobs1, hlt1, hgood, _, _⟩
  have hρ1 : ρ1 = [] := by have := hobs1.1; simpa using this
  subst hρ1
  have hk1 := backG_keep1 (len := st.s.length) (D := dstL d) hgood
  have hown : ∀ L, L ≠ .foreign → SameL L L w G w' (backG [] st.s.length (dstL d) w.heap.size G G1) := fun L hL => backG_own hgood p.rel.lt (by cases L <;> first | rfl | exact absurd rfl hL)
  have hrel := p.rel.called (s' := st.s) (ρ2 := ρ) (p.rel.ob.tr (backG_keep hgood) (fun i => hown _ (by simp)) (fun i j => hown _ (by simp))) (backG_good hgood (dstL_ne d)) (fun _ _ h => h) (backG_lt hgood hlt1) (fun L _ hL => hown L hL)
    ((p.rel.gb.tr hkrel).tr hgood.keep |>.tr hk1)
  refine after_setO hrel p.df p.sz hdt (backG_good hgood (dstL_ne d)) (fun _ _ h => h) hod (fun t ht => ?_) hK
  subst ht
  exact .of_V (hr.tr hk1 (fun i b h => by simp at h) (backG_same hgood (L := .res) (by simp)))

end
end Go.Vm
end

section
/- Functions without a body. Conditions: none. -/
namespace Go.Vm

theorem cmpS_eq : ∀ a b : List UInt8, cmpS a b = Lib.compareBytes a b
  | [], [] => rfl
  | [], _ :: _ => rfl
  | _ :: _, [] => rfl
  | a :: x, b :: y => by
    simp only [cmpS, Lib.compareBytes, cmpS_eq x y]
    by_cases h : a < b
    · simp [h]
    · by_cases h2 : b < a <;> simp [h, h2]

theorem find_cmp {fn : Func} (h : fn.name = "internal/bytealg.abigen_runtime_cmpstring") (ho : fn.origin = "") : Extern.findNext fn = none ∧ Extern.find fn = some Extern.BytealgCompare.compare := by
  constructor
  · unfold Extern.findNext
    rw [h, ho]
    have h1 : Extern.allNextRows.lookup "internal/bytealg.abigen_runtime_cmpstring" = none := by kernel_rfl
    have h2 : Extern.allNextRows.lookup "" = none := by kernel_rfl
    simp only [h1, h2]; rfl
  · unfold Extern.find
    rw [h, ho]
    have h1 : Extern.allGenericRows.lookup "internal/bytealg.abigen_runtime_cmpstring" = none := by kernel_rfl
    have h2 : Extern.allTypedRows.lookup "internal/bytealg.abigen_runtime_cmpstring" = none := by kernel_rfl
    have h3 : Extern.allRows.lookup "internal/bytealg.abigen_runtime_cmpstring" = some Extern.BytealgCompare.compare := by kernel_rfl
    simp only [h1, h2, h3]; rfl

section
variable {P : Program} {gl : Nat → List D} {n0 nt : Nat} {a : Act} {w w' : World} {G G' : Gh} {ρ ρ' : List Nat} {lam lam' : Nat → Option Nat} {st st' : St} {K : St → Prop} {o : Oper} {Q : Exit → Act → World → Prop}

theorem sim_x2 {d f k : Nat} {c : Call} {x y : Operand} {x' y' : O} {t1 t2 : Nat} (p : Pre n0 gl nt w G ρ lam a st) (hod : o.dst = some d) (hdt : d < nt) (hop : o.op = .call c) (hc : c.callee = .value (.func f)) (ha : c.args.toList = [x, y])
    (he : extK P f = some k) (hx : opd P t1 x = some x') (hy : opd P t2 y = some y') (hs : step (AP P gl) gl (.x2 d k x' y') st K) : o.wp P a w (After n0 gl nt w G ρ K) Q := by
  obtain ⟨L1, h1⟩ := ev_any hx p.rel
  obtain ⟨L2, h2⟩ := ev_any hy p.rel
  simp only [step] at hs
  split at hs
  · rename_i s1 s2 e1 e2
    rw [e1] at h1; rw [e2] at h2
    obtain ⟨b1, v1, rfl⟩ := h1.str
    obtain ⟨b2, v2, rfl⟩ := h2.str
    split at hs
    · rename_i r hr
      unfold extK at he
      split at he
      · rename_i fn hfn
        split at he
        · rename_i hb
          simp only [Option.some.injEq] at he
          subst he
          simp only [ext2, Option.some.injEq] at hr
          subst hr
          simp only [Bool.and_eq_true, beq_iff_eq] at hb
          obtain ⟨⟨hb, hname⟩, ho⟩ := hb
          obtain ⟨f1, f2⟩ := find_cmp hname ho
          refine p.value hod hdt (v := .int .i64 (Lib.compareBytes b1.data.toList b2.data.toList)) ?_ (.of_A (.d _ _ (by rw [← cmpS_eq]; exact .int _ _))) hs
          have hargs : (c.args.map a.eval) = #[.string b1, .string b2] := by
            apply Array.ext'
            rw [Array.toList_map, ha]
            simp [v1, v2]
          have hf : a.eval (.func f) = .func (.func f) #[] #[] := rfl
          simp only [execOp, hop, Sem.run_bind, resolve, hc, hf, Deferred.ofValue, Sem.run_pure, Result.andThen_ok, invoke]
          have e3 : (#[] : Array Value) ++ c.args.map a.eval ++ #[] = #[.string b1, .string b2] := by rw [hargs]; rfl
          rw [e3, run_callFunc_extern hfn (by rw [hname]; decide) hb f1 f2, Lib.run_compareString]
          rfl
        · simp at he
      · simp at he
    · exact hs.elim
  · exact hs.elim

end
end Go.Vm
end

section
/- One operation, translated, against the kit's. Conditions: none. -/
namespace Go.Vm

section
variable {P : Program} {gl : Nat → List D} {n0 nt : Nat} {a : Act} {w w' : World} {G G' : Gh} {ρ ρ' : List Nat} {lam lam' : Nat → Option Nat} {st st' : St} {K : St → Prop} {o : Oper} {Q : Exit → Act → World → Prop}

theorem elemOf_some {t e : Nat} (h : elemOf? P t = some e) : P.underlying t = some (.slice e) := by
  unfold elemOf? at h
  split at h
  · simp only [Option.some.injEq] at h; subst h; assumption
  · simp at h

theorem mapM_opd {t : Nat} {xs : List Operand} {ys : List O} (h : xs.mapM (opd P t) = some ys) : All2 (fun x y => ∃ t, opd P t x = some y) xs ys :=
  (mapM_all2 h).imp fun _ _ h => ⟨t, h⟩

theorem zipIdx_opd {f : Operand → Nat → Nat} : ∀ {xs : List Operand} {k : Nat} {ys : List O}, (xs.zipIdx k).mapM (fun q => opd P (f q.1 q.2) q.1) = some ys → All2 (fun x y => ∃ t, opd P t x = some y) xs ys
  | [], _, ys, h => by
    have := mapM_all2 h
    simp only [List.zipIdx_nil] at this
    cases this; exact .nil
  | x :: xs, k, ys, h => by
    have := mapM_all2 h
    simp only [List.zipIdx_cons] at this
    cases this with
    | @cons _ y _ ys h1 h2 =>
      refine .cons ⟨_, h1⟩ (zipIdx_opd (k := k + 1) (f := f) ?_)
      exact all2_mapM h2
 where
  all2_mapM {α β : Type} {f : α → Option β} : ∀ {l : List α} {l' : List β}, All2 (fun x y => f x = some y) l l' → l.mapM f = some l'
    | _, _, .nil => by simp
    | _, _, .cons h1 h2 => by simp [List.mapM_cons, h1, all2_mapM h2]

theorem isZero_eval {x : Option Operand} (h : isZeroC x = true) : ∃ y, x = some y ∧ ∃ k, a.eval y = .int k 0 := by
  unfold isZeroC at h
  split at h
  · rename_i k n
    simp only [decide_eq_true_eq] at h
    subst h
    exact ⟨_, rfl, k, rfl⟩
  · simp at h

theorem sim_binop {d t u : Nat} {op : BinOp} {x y : Operand} {x' y' : O} {i : I} (p : Pre n0 gl nt w G ρ lam a st) (hod : o.dst = some d) (hdt : d < nt) (hop : o.op = .binOp op t x y u) (hx : opd P t x = some x') (hy : opd P u y = some y')
    (h : (match (generalizing := false) P.underlying t, op with
      | some .bool, .eql => some (.eq d false false [0] x' y')
      | some .bool, .neq => some (.eq d true false [0] x' y')
      | some (.struct _), .eql => if P.eqGuardType P.depth t = false then (kinds P 10 t).map fun ks => .eq d false true ks x' y' else none
      | some (.struct _), .neq => if P.eqGuardType P.depth t = false then (kinds P 10 t).map fun ks => .eq d true true ks x' y' else none
      | some (.int _), _ => some (.bi d op x' y')
      | some .string, _ => some (.bi d op x' y')
      | some u, .eql => (nilKind u y).map fun k => .nq d false k x'
      | some u, .neq => (nilKind u y).map fun k => .nq d true k x'
      | _, _ => none) = some i) (hs : step (AP P gl) gl i st K) : o.wp P a w (After n0 gl nt w G ρ K) Q := by
  split at h
  · rename_i hu
    simp only [Option.some.injEq] at h; subst h
    exact sim_eq (neg := false) p hod hdt (by assumption) hx hy (by simp [kinds, hu]) (by simp [isStruct, hu]) (by simp) (fun _ => hu) hs
  · rename_i hu
    simp only [Option.some.injEq] at h; subst h
    exact sim_eq (neg := true) p hod hdt (by assumption) hx hy (by simp [kinds, hu]) (by simp [isStruct, hu]) (by simp) (fun _ => hu) hs
  · rename_i fs hu
    split at h
    · rename_i hg
      simp only [Option.map_eq_some_iff] at h
      obtain ⟨ks, hk, rfl⟩ := h
      exact sim_eq (neg := false) p hod hdt (by assumption) hx hy hk (by simp [isStruct, hu]) (fun _ => hg) (by simp) hs
    · simp at h
  · rename_i fs hu
    split at h
    · rename_i hg
      simp only [Option.map_eq_some_iff] at h
      obtain ⟨ks, hk, rfl⟩ := h
      exact sim_eq (neg := true) p hod hdt (by assumption) hx hy hk (by simp [isStruct, hu]) (fun _ => hg) (by simp) hs
    · simp at h
  · simp only [Option.some.injEq] at h; subst h
    exact sim_bi p hod hdt (by assumption) hx hy hs
  · simp only [Option.some.injEq] at h; subst h
    exact sim_bi p hod hdt (by assumption) hx hy hs
  · rename_i hu
    simp only [Option.map_eq_some_iff] at h
    obtain ⟨k, hk, rfl⟩ := h
    exact sim_nq (neg := false) p hod hdt (by assumption) hx hu hk hs
  · rename_i hu
    simp only [Option.map_eq_some_iff] at h
    obtain ⟨k, hk, rfl⟩ := h
    exact sim_nq (neg := true) p hod hdt (by assumption) hx hu hk hs
  · simp at h

theorem sim_conv {d s t : Nat} {x : Operand} {x' : O} {i : I} (p : Pre n0 gl nt w G ρ lam a st) (hod : o.dst = some d) (hdt : d < nt) (hop : o.op = .convert s t x) (hx : opd P s x = some x')
    (h : (match P.underlying s, P.underlying t with
      | some (.int _), some (.int k) => some (.ci d k x')
      | some .string, some .string => some (.cs d x')
      | some .string, some (.slice e) => match P.underlying e with
        | some (.int .u8) => if szOf P e = some 1 then some (.sb d x') else none
        | _ => none
      | some (.slice e), some .string => match P.underlying e with
        | some (.int .u8) => if szOf P e = some 1 then some (.bs d x') else none
        | _ => none
      | _, _ => none) = some i) (hs : step (AP P gl) gl i st K) : o.wp P a w (After n0 gl nt w G ρ K) Q := by
  split at h
  · rename_i h1 h2
    simp only [Option.some.injEq] at h; subst h
    exact sim_ci p hod hdt hop hx h1 h2 hs
  · rename_i h1 h2
    simp only [Option.some.injEq] at h; subst h
    simp only [step] at hs
    split at hs
    · rename_i l he
      exact sim_cs p hod hdt hop hx h1 h2 he (by simp only [step, he, snap]; exact hs)
    · exact hs.elim
  · rename_i e h1 h2
    split at h
    · rename_i h3
      split at h
      · simp only [Option.some.injEq] at h; subst h
        exact sim_sb p hod hdt hop hx h1 h2 h3 hs
      · simp at h
    · simp at h
  · rename_i e h1 h2
    split at h
    · rename_i h3
      split at h
      · simp only [Option.some.injEq] at h; subst h
        exact sim_bs p hod hdt hop hx h1 h2 h3 hs
      · simp at h
    · simp at h
  · simp at h

theorem args1 {xs : Array Operand} {x : Operand} (h : xs.toList = [x]) : xs = #[x] := Array.ext' h
theorem args2 {xs : Array Operand} {x y : Operand} (h : xs.toList = [x, y]) : xs = #[x, y] := Array.ext' h
theorem types1 {xs : Array TypeId} {x : TypeId} (h : xs.toList = [x]) : xs = #[x] := Array.ext' h
theorem types2 {xs : Array TypeId} {x y : TypeId} (h : xs.toList = [x, y]) : xs = #[x, y] := Array.ext' h

theorem sim_step {an : Ann} {m : AMap} {i : I} (p : Pre n0 gl nt w G ρ lam a st) (h : compOp P an m o = some i) (hd : dstOk nt o = true)
    (hs : step (AP P gl) gl i st K) : o.wp P a w (After n0 gl nt w G ρ K) Q := by
  have hdt : ∀ d, o.dst = some d → d < nt := by
    intro d h; unfold dstOk at hd; rw [h] at hd; simpa [Nat.blt_eq] using hd
  unfold compOp at h
  split at h
  all_goals (try simp only [Option.bind_eq_bind, Option.bind_eq_some_iff, Option.map_eq_some_iff, Option.some.injEq] at h)
  case h_1 =>
    rename_i x d hop hod
    split at h
    · split at h
      · simp only [Option.some.injEq] at h; subst h
        exact sim_tk p hod (hdt _ hod) hop hs
      · simp at h
    · simp only [Option.map_eq_some_iff] at h
      obtain ⟨y, hy, rfl⟩ := h
      exact sim_mv p hod (hdt _ hod) hop hy hs
  case h_2 =>
    rename_i x d hop hod
    obtain ⟨y, hy, rfl⟩ := h
    exact sim_asg p hod (hdt _ hod) hop hy hs
  case h_3 =>
    rename_i c x y d hop hod
    obtain ⟨c', hc, x', hx, y', hy, rfl⟩ := h
    exact sim_pk p hod (hdt _ hod) hop hc hx hy hs
  case h_4 =>
    rename_i e d hop hod
    obtain ⟨z, hz, rfl⟩ := h
    split at hs
    · exact sim_ha p hod (hdt _ hod) hop hz hs
    · exact sim_la p hod (hdt _ hod) hop hz hs
  case h_5 =>
    rename_i e x d hop hod
    obtain ⟨n, hn, x', hx, rfl⟩ := h
    split at hs
    · exact sim_hb p hod (hdt _ hod) hop hx hs
    · exact sim_lb p hod (hdt _ hod) hop hx hs
  case h_6 =>
    rename_i t ps d hop hod
    obtain ⟨z, hz, qs, hq, h⟩ := h
    split at h
    · rename_i hrow
      simp only [Option.some.injEq] at h; subst h
      have hst : ∃ d, P.underlying t = some d ∧ d.isRow = true := by
        cases hu : P.underlying t with
        | none => rw [hu] at hrow; simp at hrow
        | some d => rw [hu] at hrow; exact ⟨d, rfl, by simpa using hrow⟩
      refine sim_bd p hod (hdt _ hod) hop hz hst ((mapM_all2 hq).imp ?_) hs
      rintro ⟨j, x⟩ ⟨off, n, y⟩ hh
      simp only [Option.bind_eq_some_iff, Option.some.injEq, Prod.mk.injEq] at hh
      obtain ⟨⟨o1, n1⟩, h1, y', h2, rfl, rfl, rfl⟩ := hh
      exact ⟨h1, _, h2⟩
    · simp at h
  case h_7 =>
    rename_i t len ps d hop hod
    obtain ⟨e, he, n, hn, z, hz, h⟩ := h
    split at h
    · rename_i hg
      simp only [Bool.and_eq_true, decide_eq_true_eq] at hg
      simp only [Option.bind_eq_some_iff, Option.some.injEq] at h
      obtain ⟨ys, hy, rfl⟩ := h
      refine sim_li p hod (hdt _ hod) hop (elemOf_some he) hn hg.2 hz hg.1.1 hg.1.2 ?_ hs
      have h2 := mapM_all2 hy
      clear hy hs hg hop
      generalize ps.toList = l at h2
      induction h2 with
      | nil => exact .nil
      | cons h1 _ ih => exact .cons ⟨_, h1⟩ ih
    · simp at h
  case h_8 =>
    rename_i t x d hop hod
    obtain ⟨n, hn, ag, hag, x', hx, h⟩ := h
    split at h
    · rename_i h1
      have h1 : ag = false → n = 1 := by intro h; subst h; simpa using h1
      split at h <;> (simp only [Option.some.injEq] at h; subst h)
      · exact sim_ll p hod (hdt _ hod) hop hx hn hag h1 hs
      · exact sim_hl p hod (hdt _ hod) hop hx hn hag h1 hs
      · rename_i he _
        simp only [Bool.and_eq_true, Bool.not_eq_true'] at he
        obtain ⟨_, rfl⟩ := he
        exact sim_lt p hod (hdt _ hod) hop hx hag hs
      · rename_i he _
        simp only [Bool.and_eq_true, Bool.not_eq_true'] at he
        obtain ⟨_, rfl⟩ := he
        exact sim_ht p hod (hdt _ hod) hop hx hag hs
    · simp at h
  case h_9 =>
    rename_i t x y hop hod
    obtain ⟨n, hn, x', hx, y', hy, h⟩ := h
    split at h
    · split at h <;> (simp only [Option.some.injEq] at h; subst h)
      · exact sim_ls p hod hop hx hy hn hs
      · exact sim_hs p hod hop hx hy hn hs
    · simp at h
  case h_10 =>
    rename_i x d hop hod
    obtain ⟨x', hx, rfl⟩ := h
    exact sim_nc p hod (hdt _ hod) hop hx hs
  case h_11 =>
    rename_i op t x y u d hop hod
    obtain ⟨x', hx, y', hy, h⟩ := h
    exact sim_binop p hod (hdt _ hod) hop hx hy h hs
  case h_12 =>
    rename_i op t x d hop hod
    obtain ⟨x', hx, rfl⟩ := h
    exact sim_un p hod (hdt _ hod) hop hx hs
  case h_13 =>
    rename_i s t x d hop hod
    obtain ⟨x', hx, h⟩ := h
    exact sim_conv p hod (hdt _ hod) hop hx h hs
  case h_14 =>
    rename_i f xs cs d hop hod
    obtain ⟨ys, hy, zs, hz, rfl⟩ := h
    exact sim_mf p hod (hdt _ hod) hop (mapM_opd hy) (mapM_opd hz) hs
  case h_15 =>
    rename_i t d hop hod
    subst h
    exact sim_mm p hod (hdt _ hod) hop hs
  case h_16 =>
    rename_i t x lo hi mx d hop hod
    obtain ⟨x', hx, h⟩ := h
    split at h
    · rename_i hu
      split at h
      · rename_i hm
        simp only [Option.bind_eq_some_iff, Option.some.injEq] at h
        obtain ⟨lo', hl, hi', hh, rfl⟩ := h
        simp only [Option.isNone_iff_eq_none] at hm; subst hm
        exact sim_ss p hod (hdt _ hod) hop hx hl hh hu hs
      · simp at h
    · rename_i e hu
      simp only [Option.bind_eq_some_iff] at h
      obtain ⟨n, hn, h⟩ := h
      split at h
      · rename_i hg
        simp only [Bool.and_eq_true, Option.isNone_iff_eq_none] at hg
        simp only [Option.some.injEq] at h; subst h
        obtain ⟨⟨hlo, hhi⟩, hmx⟩ := hg
        obtain ⟨h1, rfl, k1, e1⟩ := isZero_eval (a := a) hhi
        obtain ⟨h2, rfl, k2, e2⟩ := isZero_eval (a := a) hmx
        subst hlo
        exact sim_em p hod (hdt _ hod) hop hx ⟨k1, e1⟩ ⟨k2, e2⟩ hu hn hs
      · split at h
        · simp at h
        · rename_i hmm
          simp only [Option.bind_eq_some_iff, Option.some.injEq] at h
          obtain ⟨lo', hl, hi', hh, mx', hm, rfl⟩ := h
          refine sim_sl p hod (hdt _ hod) hop hx hl hh hm ?_ hu hn hs
          intro h0; subst h0
          cases mx with
          | none => rfl
          | some _ => simp at hmm
    · simp at h
  case h_17 =>
    rename_i t x f d hop hod
    split at h
    · rename_i fs hu
      split at h
      · rename_i fl hf
        split at h
        · rename_i hz
          simp only [Option.map_eq_some_iff] at h
          obtain ⟨x', hx, rfl⟩ := h
          cases hz' : szOf P fl.type with
          | none => rw [hz'] at hz; simp at hz
          | some n =>
            rw [hz'] at hz
            exact sim_fa p hod (hdt _ hod) hop hx hu hf hz' (by simpa using hz) hs
        · simp at h
      · simp at h
    · simp at h
  case h_18 =>
    rename_i t x f d hop hod
    split at h
    · rename_i fs hu
      split at h
      · rename_i fl hf
        simp only [Option.bind_eq_some_iff] at h
        obtain ⟨n, hn, ag, hag, x', hx, h⟩ := h
        split at h
        · rename_i h1
          simp only [Option.some.injEq] at h; subst h
          exact sim_fd p hod (hdt _ hod) hop hx hu hf hn hag (by intro h; subst h; simpa using h1) hs
        · simp at h
      · simp at h
    · simp at h
  case h_19 =>
    rename_i t x y d hop hod
    obtain ⟨x', hx, y', hy, h⟩ := h
    split at h
    · rename_i e hu
      simp only [Option.bind_eq_some_iff] at h
      obtain ⟨n, hn, h⟩ := h
      split at h
      · rename_i hp
        simp only [Option.some.injEq] at h; subst h
        exact sim_ia_list p hod (hdt _ hod) hop hx hy hu hn (by simpa using hp) hs
      · simp at h
    · rename_i len e hu
      simp only [Option.bind_eq_some_iff] at h
      obtain ⟨n, hn, h⟩ := h
      split at h
      · simp only [Option.some.injEq] at h; subst h
        exact sim_aa p hod (hdt _ hod) hop hx hy hu hn hs
      · simp at h
    · simp at h
  case h_20 =>
    rename_i t x y d hop hod
    obtain ⟨x', hx, y', hy, h⟩ := h
    split at h
    · rename_i hu
      simp only [Option.some.injEq] at h; subst h
      exact sim_ix p hod (hdt _ hod) hop hx hy hu hs
    · simp at h
  case h_21 =>
    rename_i t x k ok d hop hod
    obtain ⟨x', hx, h⟩ := h
    split at h
    · rename_i kt et hu
      simp only [Option.bind_eq_some_iff, Option.some.injEq] at h
      obtain ⟨k', hk, z, hz, ks, hks, rfl⟩ := h
      exact sim_lk p hod (hdt _ hod) hop hx hk hu hz hks rfl hs
    · simp at h
  case h_22 =>
    rename_i t x k v hop hod
    obtain ⟨x', hx, h⟩ := h
    split at h
    · rename_i kt et hu
      simp only [Option.bind_eq_some_iff, Option.some.injEq] at h
      obtain ⟨ks, hks, k', hk, v', hv, rfl⟩ := h
      exact sim_mu p hod hop hx hk hv hu hks rfl hs
    · simp at h
  case h_23 =>
    rename_i x j d hop hod
    obtain ⟨x', hx, rfl⟩ := h
    exact sim_ex p hod (hdt _ hod) hop hx hs
  case h_24 =>
    rename_i c hop
    split at h
    · rename_i f hc
      simp only [Option.bind_eq_some_iff] at h
      obtain ⟨ys, hy, h⟩ := h
      have hy := zipIdx_opd (f := fun _ i => c.argTypes.getD i 0) hy
      split at h
      · split at h
        · rename_i k x y d he hod _
          simp only [Option.some.injEq] at h; subst h
          generalize hal : c.args.toList = al at hy
          cases hy with
          | cons h1 hy => cases hy with
            | cons h2 hy =>
              cases hy
              obtain ⟨t1, h1⟩ := h1
              obtain ⟨t2, h2⟩ := h2
              exact sim_x2 p hod (hdt _ hod) hop hc hal he h1 h2 hs
        · split at h
          · simp only [Option.some.injEq] at h; subst h
            exact sim_cp p rfl hdt hop hc hy hs
          · simp only [Option.some.injEq] at h; subst h
            exact sim_cl (t := 0) p rfl hdt hop hc rfl hy hs
      · simp only [Option.bind_eq_some_iff, Option.some.injEq] at h
        obtain ⟨f', hf, rfl⟩ := h
        exact sim_cl p rfl hdt hop hc hf hy hs
    · rename_i hc
      split at h
      · rename_i x t d h1 h2 hod
        obtain ⟨cc, ca, ct⟩ := c
        replace h1 := args1 h1
        replace h2 := types1 h2
        simp only at hc
        subst hc
        replace h1 : ca = _ := h1
        replace h2 : ct = _ := h2
        subst h1 h2
        split at h
        · rename_i hu
          simp only [Option.map_eq_some_iff] at h
          obtain ⟨x', hx, rfl⟩ := h
          exact sim_ln (str := true) p hod (hdt _ hod) hop hx (by simpa using hu) hs
        · rename_i e hu
          simp only [Option.map_eq_some_iff] at h
          obtain ⟨x', hx, rfl⟩ := h
          exact sim_ln (str := false) p hod (hdt _ hod) hop hx (by simpa using ⟨e, hu⟩) hs
        · simp at h
      · simp at h
    · rename_i hc
      split at h
      · rename_i s x t u d h1 h2 hod
        obtain ⟨cc, ca, ct⟩ := c
        replace h1 := args2 h1
        replace h2 := types2 h2
        simp only at hc
        subst hc
        replace h1 : ca = _ := h1
        replace h2 : ct = _ := h2
        subst h1 h2
        simp only [Option.bind_eq_some_iff] at h
        obtain ⟨e, he, n, hn, b, hb, z, hz, h⟩ := h
        have key : ∀ desc, P.underlying u = some desc → srcDesc desc = true → (0 < n ∧ 0 < b) → ((opd P u x).bind fun y => some (I.ap d s y n (140737488355328 / b))) = some i → o.wp P a w (After n0 gl nt w G ρ K) Q := by
          intro desc hu hdesc hg h
          simp only [Option.bind_eq_some_iff, Option.some.injEq] at h
          obtain ⟨x', hx, rfl⟩ := h
          exact sim_ap p hod (hdt _ hod) hop hx (elemOf_some he) hn hg.1 hb hg.2 rfl hz hu hdesc hs
        split at h
        · rename_i hu
          simp only [Bool.true_and, Bool.and_eq_true, decide_eq_true_eq, Option.ite_none_right_eq_some] at h
          exact key _ hu rfl h.1 h.2
        · rename_i hu
          simp only [Bool.true_and, Bool.and_eq_true, decide_eq_true_eq, Option.ite_none_right_eq_some] at h
          exact key _ hu rfl h.1 h.2
        · simp at h
      · simp at h
    · rename_i hc
      split at h
      · rename_i x y d h1 hod
        obtain ⟨cc, ca, ct⟩ := c
        replace h1 := args2 h1
        simp only at hc
        subst hc
        replace h1 : ca = _ := h1
        subst h1
        simp only [Option.bind_eq_some_iff, Option.some.injEq] at h
        obtain ⟨x', hx, y', hy, rfl⟩ := h
        exact sim_mn (lt := false) p hod (hdt _ hod) hop hx hy hs
      · simp at h
    · rename_i hc
      split at h
      · rename_i x y d h1 hod
        obtain ⟨cc, ca, ct⟩ := c
        replace h1 := args2 h1
        simp only at hc
        subst hc
        replace h1 : ca = _ := h1
        subst h1
        simp only [Option.bind_eq_some_iff, Option.some.injEq] at h
        obtain ⟨x', hx, y', hy, rfl⟩ := h
        exact sim_mn (lt := true) p hod (hdt _ hod) hop hx hy hs
      · simp at h
    · simp at h
  case h_25 => simp at h

end
end Go.Vm
end

section
/- Code, translated, against the kit's: what is forgotten at a loop's head and at a function's end. Conditions: none. -/
namespace Go.Vm

section
variable {P : Program} {gl : Nat → List D} {n0 nt : Nat} {a : Act} {w w' : World} {G G' : Gh} {ρ ρ' : List Nat} {lam lam' : Nat → Option Nat} {st st' : St} {K : St → Prop} {o : Oper} {Q : Exit → Act → World → Prop}

theorem take_get {l : List Nat} {m i b : Nat} (hi : i < m) (h : l[i]? = some b) : (l.take m)[i]? = some b := by
  rw [List.getElem?_take, if_pos hi]; exact h

theorem okR_A {m : Nat} : ∀ (n : Nat) {v : Value} {x : Val}, RelA w G ρ v x → okR m n x = true → RelA w G (ρ.take m) v x := by
  intro n
  induction n with
  | zero =>
    intro v x h ho
    cases h with
    | undef v => exact .undef v
    | d _ _ h => exact .d _ _ h
    | nil a s => exact .nil a s
    | ptr _ _ _ h => exact .ptr _ _ _ (take_get (by simpa [okR, Nat.blt_eq] using ho) h)
    | map _ _ h => exact .map _ _ (take_get (by simpa [okR, Nat.blt_eq] using ho) h)
    | sl _ _ _ _ _ _ h => exact .sl _ _ _ _ _ _ (take_get (by simpa [okR, Nat.blt_eq] using ho) h)
    | func _ _ _ _ _ _ _ => simp [okR] at ho
    | agg _ _ _ => simp [okR] at ho
    | tuple _ _ _ => simp [okR] at ho
    | yl _ _ h => exact .yl _ _ (take_get (by simpa [okR, Nat.blt_eq] using ho) h)
  | succ n ih =>
    have hL : ∀ {vs : List Value} {xs : List Val}, RelL w G ρ vs xs → (∀ x, x ∈ xs → okR m n x = true) → RelL w G (ρ.take m) vs xs := by
      intro vs
      induction vs with
      | nil => intro xs h _; cases h; exact .nil
      | cons v vs ihv =>
        intro xs h ho
        cases h with
        | cons _ x _ xs h1 h2 => exact .cons _ _ _ _ (ih h1 (ho x (by simp))) (ihv h2 fun y hy => ho y (by simp [hy]))
    intro v x h ho
    cases h with
    | undef v => exact .undef v
    | d _ _ h => exact .d _ _ h
    | nil a s => exact .nil a s
    | ptr _ _ _ h => exact .ptr _ _ _ (take_get (by simpa [okR, Nat.blt_eq] using ho) h)
    | map _ _ h => exact .map _ _ (take_get (by simpa [okR, Nat.blt_eq] using ho) h)
    | sl _ _ _ _ _ _ h => exact .sl _ _ _ _ _ _ (take_get (by simpa [okR, Nat.blt_eq] using ho) h)
    | func _ _ _ _ _ h1 h2 =>
      simp only [okR, List.all_append, Bool.and_eq_true, List.all_eq_true] at ho
      exact .func _ _ _ _ _ (hL h1 ho.1) (hL h2 ho.2)
    | agg _ _ h1 =>
      simp only [okR, List.all_eq_true] at ho
      exact .agg _ _ (hL h1 ho)
    | tuple _ _ h1 =>
      simp only [okR, List.all_eq_true] at ho
      exact .tuple _ _ (hL h1 ho)
    | yl _ _ h => exact .yl _ _ (take_get (by simpa [okR, Nat.blt_eq] using ho) h)

theorem okR_V {m n : Nat} {L : Loc} {v : Value} {x : Val} (h : RelV w G ρ L v x) (ho : okR m n x = true) : RelV w G (ρ.take m) L v x := by
  rcases h.cases with h | ⟨sz, d, l, rfl, h⟩
  · exact .of_A (okR_A n h ho)
  · exact h

theorem okR_box {m b : Nat} {L : Loc} {LC : Nat → Loc} {cs : List Val} (h : RelBox w G ρ b L LC cs) (ho : cs.all (okR m depth) = true) : RelBox w G (ρ.take m) b L LC cs := by
  obtain ⟨c, E, fz, h1, h2, h3, h4, h5⟩ := h
  exact ⟨c, E, fz, h1, h2, h3, h4, fun j v x hv hx => okR_V (h5 j v x hv hx) (List.all_eq_true.1 ho x (List.mem_of_getElem? hx))⟩

theorem okR_obs {m : Nat} {s : Store} (h : RelObs w G ρ s) (ho : (s.take m).all (Ob.okR m) = true) : RelObs w G (ρ.take m) (s.take m) := by
  refine ⟨by simp [h.1], ?_⟩
  intro i b o hb hs
  rw [List.getElem?_take] at hb hs
  split at hb
  · rename_i hi
    rw [if_pos hi] at hs
    have hoo := List.all_eq_true.1 ho o (List.mem_of_getElem? (i := i) (by rw [List.getElem?_take, if_pos hi]; exact hs))
    have hr := h.2 i b o hb hs
    cases o with
    | box cs => exact okR_box hr hoo
    | map es =>
      obtain ⟨mes, clock, h1, h2, h3, h4⟩ := hr
      refine ⟨mes, clock, h1, h2, h3, fun j e p he hp => ⟨(h4 j e p he hp).1, okR_A depth (h4 j e p he hp).2 ?_⟩⟩
      simp only [Ob.okR, List.all_eq_true] at hoo
      exact hoo p (List.mem_of_getElem? hp)
    | dead => trivial
  · simp at hb

theorem mkT_get (tm : Nat → Val) (t : Nat) : ∀ ts : List Nat, mkT tm ts t = if t ∈ ts then tm t else .undef
  | [] => by simp [mkT]
  | s :: ts => by
    simp only [mkT, upd_eq, mkT_get tm t ts, List.mem_cons]
    by_cases h : t = s
    · simp [h]
    · simp [h]

theorem mkB_get (bx : Nat → Option (List Val)) (t : Nat) : ∀ bs : List Nat, mkB bx bs t = if t ∈ bs then bx t else none
  | [] => by simp [mkB]
  | s :: bs => by
    simp only [mkB, upd_eq, mkB_get bx t bs, List.mem_cons]
    by_cases h : t = s
    · simp [h]
    · simp [h]

theorem keeps_spec {tm : Nat → Val} {bs : List Nat} : ∀ {ts : List Nat}, keeps tm bs ts = true → ∀ t, t ∈ ts → ∀ u off, tm t = .lref u off → u ∈ bs
  | [], _, t, ht => by simp at ht
  | s :: ts, h, t, ht => by
    simp only [keeps, Bool.and_eq_true] at h
    intro u off hu
    rcases List.mem_cons.1 ht with rfl | ht
    · have := h.1
      rw [hu] at this
      exact elemB_iff.1 this
    · exact keeps_spec h.2 t ht u off hu

/-- Nothing is said of what is forgotten. -/
theorem Pre.forget {n : Nat} {ts bs : List Nat} (p : Pre n0 gl nt w G ρ lam a st) (hk : keeps st.tm bs ts = true) :
    ∃ ρ' lam', Pre n0 gl nt w G ρ' lam' a (forgot n ts bs st) ∧ (ρ' = ρ ∨ ρ' = ρ.take n) := by
  -- the slots and the boxes
  let lam' : Nat → Option Nat := fun t => if t ∈ bs then lam t else none
  have h1 : RelS gl w G ρ lam' a.tmps ⟨mkT st.tm ts, mkB st.bx bs, st.s⟩ := by
    refine ⟨?_, ?_, ?_, p.rel.ob, p.rel.gb, p.rel.lt⟩
    · intro t
      simp only [mkT_get]
      split
      · rename_i ht
        have := p.rel.tm t
        rcases this.cases with h | ⟨u, off, b, e, h1, h2⟩
        · exact .of_V h
        · rw [e]
          refine ⟨b, ?_, h2⟩
          simp only [lam']
          rw [if_pos (keeps_spec hk t ht u off e)]; exact h1
      · exact .of_A (.undef _)
    · intro t cs hb
      simp only [mkB_get] at hb
      split at hb
      · rename_i ht
        obtain ⟨b, h1, h2⟩ := p.rel.bx t cs hb
        exact ⟨b, by simp only [lam']; rw [if_pos ht]; exact h1, h2⟩
      · simp at hb
    · intro t hb
      simp only [mkB_get] at hb
      simp only [lam']
      split at hb
      · rename_i ht; rw [if_pos ht]; exact p.rel.nb t hb
      · rename_i ht; rw [if_neg ht]
  unfold forgot
  cases hc : (ts.all (fun t => okR n depth (st.tm t)) && bs.all (okB n st.bx) && (st.s.take n).all (Ob.okR n)) with
  | false => exact ⟨ρ, lam', ⟨h1, p.df, p.sz⟩, .inl rfl⟩
  | true =>
    simp only [Bool.and_eq_true] at hc
    refine ⟨ρ.take n, lam', ⟨⟨?_, ?_, h1.nb, okR_obs p.rel.ob hc.2, p.rel.gb, p.rel.lt⟩, p.df, p.sz⟩, .inr rfl⟩
    · intro t
      simp only
      have := h1.tm t
      simp only [mkT_get] at this ⊢
      split
      · rename_i ht
        rw [if_pos ht] at this
        have ho := List.all_eq_true.1 hc.1.1 t ht
        rcases this.cases with h | ⟨u, off, b, e, h1, h2⟩
        · exact .of_V (okR_V h ho)
        · rw [e]; exact ⟨b, h1, h2⟩
      · exact .of_A (.undef _)
    · intro t cs hb
      simp only at hb
      obtain ⟨b, h2, h3⟩ := h1.bx t cs hb
      refine ⟨b, h2, okR_box h3 ?_⟩
      simp only [mkB_get] at hb
      split at hb
      · rename_i ht
        have ho := List.all_eq_true.1 hc.1.2 t ht
        simp only [okB, hb] at ho
        exact ho
      · simp at hb

end
end Go.Vm
end

section
/- Code, translated, against the kit's: regions in their order; conditions, blocks, loops. Conditions: none. -/
namespace Go.Vm

section
variable {P : Program} {gl : Nat → List D} {n0 nt : Nat} {a : Act} {w w' w0 : World} {G G' G0 : Gh} {ρ ρ' ρ0 : List Nat} {lam lam' : Nat → Option Nat} {st st' : St} {K : St → Prop} {o : Oper} {Q : Exit → Act → World → Prop}

/-- What a run has come to. -/
def Post (n0 : Nat) (gl : Nat → List D) (nt : Nat) (w : World) (G : Gh) (ρ : List Nat) (K : Ex → St → Prop) : Exit → Act → World → Prop
  | .normal, a', w' => After n0 gl nt w G ρ (K .normal) a' w'
  | .exit i, a', w' => After n0 gl nt w G ρ (K (.exit i)) a' w'
  | .ret, a', w' => After n0 gl nt w G ρ (K .ret) a' w'
  | _, _, _ => False

/-- How far it is from the start. -/
structure Far (w0 : World) (G0 : Gh) (ρ0 : List Nat) (w : World) (G : Gh) (ρ : List Nat) : Prop where
  good : Good w0 G0 w G
  pre : ∀ i b : Nat, ρ0[i]? = some b → ρ[i]? = some b

theorem Far.after (f : Far w0 G0 ρ0 w G ρ) {a' : Act} {w' : World} (h : After n0 gl nt w G ρ K a' w') : After n0 gl nt w0 G0 ρ0 K a' w' := by
  obtain ⟨h2, G', ρ', lam', st', h1, h3, h4, h5, h6⟩ := h
  exact ⟨h2, G', ρ', lam', st', h1, h3, f.good.trans h4, fun i b h => h5 i b (f.pre i b h), h6⟩

theorem Far.post (f : Far w0 G0 ρ0 w G ρ) {K : Ex → St → Prop} {e : Exit} {a' : Act} {w' : World} (h : Post n0 gl nt w G ρ K e a' w') : Post n0 gl nt w0 G0 ρ0 K e a' w' := by
  cases e <;> first | exact f.after h | exact h.elim

theorem Pre.far (p : Pre n0 gl nt w G ρ lam a st) : Far w G ρ w G ρ := ⟨Good.refl p.rel.lt, fun _ _ h => h⟩

/-- It stands where it stands. -/
theorem Pre.after (p : Pre n0 gl nt w G ρ lam a st) (h : K st) : After n0 gl nt w G ρ K a w :=
  ⟨p.sz, G, ρ, lam, st, p.df, p.rel, Good.refl p.rel.lt, fun _ _ h => h, h⟩

/-- Whether a guarded operation is wanted. -/
theorem guard_spec {ops : Array Oper} {g : Option (Nat × Bool)} (hg : compGuard ops o = some g) (hT : ∀ t, RelT w G ρ lam (.slot t) (a.tmps.getD t undef) (st.tm t)) :
    (g = none ∧ Region.wanted o (yielded ops a.tmps) = true) ∨
    ∃ s want, g = some (s, want) ∧ ((∃ b, st.tm s = .d (.bool b) ∧ Region.wanted o (yielded ops a.tmps) = (cond want b (!b))) ∨
      (st.tm s = .tuple [] ∧ Region.wanted o (yielded ops a.tmps) = false) ∨ ((∀ b, st.tm s ≠ .d (.bool b)) ∧ st.tm s ≠ .tuple [])) := by
  unfold compGuard at hg
  split at hg
  · rename_i hn
    simp only [Option.some.injEq] at hg
    exact .inl ⟨hg.symm, by simp [Region.wanted, hn]⟩
  · rename_i j want hn
    split at hg
    · rename_i s hs
      simp only [Option.some.injEq] at hg
      refine .inr ⟨s, want, hg.symm, ?_⟩
      have hw : Region.wanted o (yielded ops a.tmps) = (yielded ops a.tmps j == some want) := by simp [Region.wanted, hn]
      have hy : yielded ops a.tmps j = match a.tmps[s]? with | some (.bool b) => some b | _ => none := by
        simp only [yielded, hs, Option.bind_some]; rfl
      have hr := hT s
      rw [hw, hy]
      by_cases h1 : ∃ b, st.tm s = .d (.bool b)
      · obtain ⟨b, hb⟩ := h1
        refine .inl ⟨b, hb, ?_⟩
        rw [hb] at hr
        have hv := hr.bool
        rw [Array.getD_eq_getD_getElem?] at hv
        cases hx : a.tmps[s]? with
        | none => rw [hx] at hv; simp [undef] at hv
        | some v =>
          rw [hx] at hv
          simp only [Option.getD_some] at hv
          subst hv
          cases b <;> cases want <;> rfl
      · by_cases h2 : st.tm s = .tuple []
        · refine .inr (.inl ⟨h2, ?_⟩)
          rw [h2] at hr
          have hr : RelA w G ρ (a.tmps.getD s undef) (.tuple []) := hr
          rw [Array.getD_eq_getD_getElem?] at hr
          cases hx : a.tmps[s]? with
          | none => rfl
          | some v =>
            rw [hx] at hr
            simp only [Option.getD_some] at hr
            cases hr
            rfl
        · exact .inr (.inr ⟨fun b hb => h1 ⟨b, hb⟩, h2⟩)
    · simp at hg

/-- What is not wanted leaves nothing. -/
theorem skip_after {d : Option Nat} (p : Pre n0 gl nt w G ρ lam a st) (hod : o.dst = d) (hdt : dstOk nt o = true) (hK : K (st.setO d (.tuple []))) : After n0 gl nt w G ρ K (a.put o.dst undef) w :=
  after_setO p.rel p.df p.sz (fun t ht => by unfold dstOk at hdt; rw [hod, ht] at hdt; simpa [Nat.blt_eq] using hdt) (Good.refl p.rel.lt) (fun _ _ h => h) hod
    (fun _ _ => .of_A (.tuple [] [] .nil)) hK

/-- One operation with its guard. -/
theorem sim_gop {ops : Array Oper} {i : Nat} {an : Ann} {m : AMap} {ins : I} {g : Option (Nat × Bool)} (p : Pre n0 gl nt w G ρ lam a st) (ho : ops[i]? = some o) (h : compOp P an m o = some ins)
    (hg : compGuard ops o = some g) (hd : dstOk nt o = true) (hdst : ins.dst = o.dst) (hs : steps (AP P gl) gl [⟨g, ins⟩] st K) : wpOp P ops Q i (After n0 gl nt w G ρ K) a w := by
  unfold wpOp
  rw [ho]
  simp only
  rcases guard_spec hg p.rel.tm with ⟨rfl, hw⟩ | ⟨s, want, rfl, ⟨b, hb, hw⟩ | ⟨hb, hw⟩ | ⟨h1, h2⟩⟩
  · rw [hw]; simp only [if_true]
    exact .inl (sim_step p h hd hs)
  · rw [hw]
    simp only [steps, hb] at hs
    cases hc : cond want b (!b) with
    | true => rw [hc] at hs; simp only [if_true]; exact .inl (sim_step p h hd hs)
    | false => rw [hc] at hs; simp only [Bool.false_eq_true, if_false]; exact skip_after p hdst.symm hd hs
  · rw [hw]
    simp only [steps, hb] at hs
    simp only [Bool.false_eq_true, if_false]
    exact skip_after p hdst.symm hd hs
  · exfalso
    simp only [steps] at hs
    first
      | exact hs
      | (split at hs
         · rename_i b hb; exact h1 b hb
         · rename_i hb; exact h2 hb
         · exact hs)

theorem steps_cons {R : Type} (A : Alg R) (gl : Nat → List D) (g : GI) (l : List GI) (st : St) (K : St → R) : steps A gl (g :: l) st K = steps A gl [g] st fun st => steps A gl l st K := by
  obtain ⟨g, i⟩ := g
  cases g with
  | none => rfl
  | some q => obtain ⟨s, want⟩ := q; simp only [steps]

/-- Operations one behind another, as the text has them. -/
theorem sim_ops {ops : Array Oper} {an : Ann} : ∀ {l : List Oper} {k : Nat} {m : AMap} {is : List GI} {w : World} {G : Gh} {ρ : List Nat} {lam : Nat → Option Nat} {a : Act} {st : St},
    (∀ j, ops[k + j]? = l[j]?) → compOps P an nt ops m l = some is → Pre n0 gl nt w G ρ lam a st → Far w0 G0 ρ0 w G ρ → steps (AP P gl) gl is st K →
    (∀ a' w', After n0 gl nt w0 G0 ρ0 K a' w' → Q .normal a' w') → wpOps P ops Q (List.range' k l.length) a w
  | [], k, m, is, w, G, ρ, lam, a, st, _, hc, p, f, hs, hQ => by
    simp only [compOps, Option.some.injEq] at hc
    subst hc
    exact hQ _ _ (f.after (p.after hs))
  | o :: l, k, m, is, w, G, ρ, lam, a, st, hl, hc, p, f, hs, hQ => by
    simp only [compOps] at hc
    split at hc
    · rename_i i g is' h1 h2 h3
      split at hc
      · rename_i hd
        simp only [Bool.and_eq_true, decide_eq_true_eq] at hd
        simp only [Option.some.injEq] at hc
        subst hc
        rw [steps_cons] at hs
        rw [List.length_cons, List.range'_succ, wpOps_cons]
        have ho : ops[k]? = some o := by have := hl 0; simpa using this
        refine wpOp_mono ?_ (sim_gop p ho h1 h2 hd.1 hd.2 hs)
        rintro a' w' ⟨e2, G', ρ', lam', st', e1, e3, e4, e5, e6⟩
        refine sim_ops (l := l) (k := k + 1) (m := amapOf P m o) (fun j => ?_) h3 ⟨e3, e1, e2⟩ ⟨f.good.trans e4, fun i b h => e5 i b (f.pre i b h)⟩ e6 hQ
        have := hl (j + 1)
        rw [show k + 1 + j = k + (j + 1) by omega, this]; rfl
      · simp at hc
    · simp at hc

/-- What the machine's code comes to, one exit behind another. -/
theorem run_seq_post {K : Ex → St → Prop} {b : VC} {y : Code} (hy : ∀ {w : World} {G : Gh} {ρ : List Nat} {lam : Nat → Option Nat} {a : Act} {st : St}, Pre n0 gl nt w G ρ lam a st → Far w0 G0 ρ0 w G ρ →
      run (AP P gl) gl b st K → y.wp P (Post n0 gl nt w0 G0 ρ0 K) a w) {e : Exit} {a' : Act} {w' : World}
    (h : Post n0 gl nt w0 G0 ρ0 (fun x st => match x with | .normal => run (AP P gl) gl b st K | x => K x st) e a' w') : Exit.then (y.wp P (Post n0 gl nt w0 G0 ρ0 K)) (Post n0 gl nt w0 G0 ρ0 K) e a' w' := by
  cases e with
  | normal =>
    obtain ⟨e2, G', ρ', lam', st', e1, e3, e4, e5, e6⟩ := h
    exact hy ⟨e3, e1, e2⟩ ⟨e4, e5⟩ e6
  | exit i => exact h
  | ret => exact h
  | _ => exact h.elim

end
end Go.Vm
end

section
/- Code and functions, translated, against the kit's. Conditions: none. -/
namespace Go.Vm

section
variable {P : Program} {gl : Nat → List D} {n0 nt : Nat} {a : Act} {w w' w0 : World} {G G' G0 : Gh} {ρ ρ' ρ0 : List Nat} {lam lam' : Nat → Option Nat} {st st' : St} {K : St → Prop} {o : Oper} {Q : Exit → Act → World → Prop}

/-- What is to be shown of a region that draws its order. -/
def AnyLaw (P : Program) (gl : Nat → List D) : Prop :=
  ∀ {n0 nt : Nat} {an : Ann} {m : AMap} {id : Nat} {ops : Array Oper} {is : List GI} {w : World} {G : Gh} {ρ : List Nat} {lam : Nat → Option Nat} {a : Act} {st : St} {K : Ex → St → Prop},
    compOps P an nt ops m ops.toList = some is → anyOk P ops is = true → Pre n0 gl nt w G ρ lam a st → steps (AP P gl) gl is st (K .normal) → (Code.region id ops true).wp P (Post n0 gl nt w G ρ K) a w

/-- What is to be shown of a range over a function. -/
def RangeLaw (P : Program) (gl : Nat → List D) : Prop :=
  ∀ {n0 nt : Nat} {an : Ann} {m : AMap} {f : Operand} {ps : Array Tmp} {x y : Code} {l l' : List (List Nat × List Nat)} {vc : VC} {w : World} {G : Gh} {ρ : List Nat} {lam : Nat → Option Nat} {a : Act} {st : St} {K : Ex → St → Prop},
    compC P an nt m (.rangeFunc f ps x y) l = some (vc, l') → Pre n0 gl nt w G ρ lam a st → n0 ≤ w.heap.size → run (AP P gl) gl vc st K → (Code.rangeFunc f ps x y).wp P (Post n0 gl nt w G ρ K) a w

theorem run_loop_post {K : Ex → St → Prop} {ts bs : List Nat} {I : Nat → St → Prop} {n : Nat} {st1 : St} {ρ1 : List Nat} (hlen : st1.s.length = ρ1.length) (f1 : ∀ i b : Nat, ρ0[i]? = some b → ρ1[i]? = some b) {e : Exit} {a' : Act} {w' w1 : World} {G1 : Gh}
    (hg1 : Good w0 G0 w1 G1)
    (h : Post n0 gl nt w1 G1 ρ1 (fun x st => match x with | .normal => Vm.forget (AP P gl) st1.s.length ts bs st (fun st' => ∃ m, m < n ∧ I m st') | x => K x st) e a' w') :
    Exit.then (fun a' w' => ∃ m, m < n ∧ ∃ G ρ lam st, Pre n0 gl nt w' G ρ lam a' st ∧ Far w0 G0 ρ0 w' G ρ ∧ I m st) (Post n0 gl nt w0 G0 ρ0 K) e a' w' := by
  have f : Far w0 G0 ρ0 w1 G1 ρ1 := ⟨hg1, f1⟩
  cases e with
  | normal =>
    obtain ⟨e2, G', ρ', lam', st', e1, e3, e4, e5, hk, m, hm, hI⟩ := h
    have p : Pre n0 gl nt w' G' ρ' lam' a' st' := ⟨e3, e1, e2⟩
    obtain ⟨ρ2, lam2, p2, hρ⟩ := p.forget (n := st1.s.length) hk
    refine ⟨m, hm, G', ρ2, lam2, _, p2, ⟨hg1.trans e4, ?_⟩, hI⟩
    intro i b hi
    have h1 := f1 i b hi
    have h2 := e5 i b h1
    rcases hρ with rfl | rfl
    · exact h2
    · refine take_get ?_ h2
      rw [hlen]
      rcases Nat.lt_or_ge i ρ1.length with h | h
      · exact h
      · rw [List.getElem?_eq_none h] at h1; simp at h1
  | exit i => exact f.after h
  | ret => exact f.after h
  | _ => exact h.elim

theorem sim_code (hany : AnyLaw P gl) (hrf : RangeLaw P gl) {an : Ann} {m : AMap} : ∀ (c : Code) {l l' : List (List Nat × List Nat)} {vc : VC} {w0 w : World} {G0 G : Gh} {ρ0 ρ : List Nat} {lam : Nat → Option Nat} {a : Act} {st : St} {K : Ex → St → Prop},
    compC P an nt m c l = some (vc, l') → Pre n0 gl nt w G ρ lam a st → Far w0 G0 ρ0 w G ρ → n0 ≤ w0.heap.size → run (AP P gl) gl vc st K → c.wp P (Post n0 gl nt w0 G0 ρ0 K) a w := by
  intro c
  induction c with
  | skip =>
    intro l l' vc w0 w G0 G ρ0 ρ lam a st K hc p f hn hr
    simp only [compC, Option.some.injEq, Prod.mk.injEq] at hc
    obtain ⟨rfl, rfl⟩ := hc
    exact wp_skip (f.after (p.after hr))
  | region id ops dr =>
    intro l l' vc w0 w G0 G ρ0 ρ lam a st K hc p f hn hr
    simp only [compC] at hc
    split at hc
    · rename_i is his
      cases dr with
      | true =>
        simp only [if_true, Option.ite_none_right_eq_some, Option.some.injEq, Prod.mk.injEq] at hc
        obtain ⟨hok, rfl, rfl⟩ := hc
        exact wp_mono (hany his hok p hr) fun e a w h => f.post h
      | false =>
        simp only [Bool.false_eq_true, if_false, Option.some.injEq, Prod.mk.injEq] at hc
        obtain ⟨rfl, rfl⟩ := hc
        refine wp_region ?_
        have : List.range ops.size = List.range' 0 ops.toList.length := by rw [List.range_eq_range', Array.length_toList]
        rw [this]
        exact sim_ops (fun j => by simp) his p f hr fun a' w' h => h
    · simp at hc
  | seq x y ihx ihy =>
    intro l l' vc w0 w G0 G ρ0 ρ lam a st K hc p f hn hr
    simp only [compC] at hc
    split at hc
    · rename_i vx l1 hx
      split at hc
      · rename_i vy l2 hy
        simp only [Option.some.injEq, Prod.mk.injEq] at hc
        obtain ⟨rfl, rfl⟩ := hc
        refine wp_seq (wp_mono (ihx hx p f hn hr) fun e a w h => ?_)
        exact run_seq_post (fun p f hr => ihy hy p f hn hr) h
      · simp at hc
    · simp at hc
  | cond c x y ihx ihy =>
    intro l l' vc w0 w G0 G ρ0 ρ lam a st K hc p f hn hr
    simp only [compC] at hc
    split at hc
    · rename_i vx co l1 ho hx
      split at hc
      · rename_i vy l2 hy
        simp only [Option.some.injEq, Prod.mk.injEq] at hc
        obtain ⟨rfl, rfl⟩ := hc
        simp only [run] at hr
        obtain ⟨L, hT⟩ := ev_any ho p.rel
        split at hr
        · rename_i t ht
          rw [ht] at hT
          cases t with
          | true => exact wp_cond_true hT.bool (ihx hx p f hn hr)
          | false => exact wp_cond_false hT.bool (ihy hy p f hn hr)
        · exact hr.elim
      · simp at hc
    · simp at hc
  | block i b ih =>
    intro l l' vc w0 w G0 G ρ0 ρ lam a st K hc p f hn hr
    simp only [compC] at hc
    split at hc
    · rename_i vb l1 hb
      simp only [Option.some.injEq, Prod.mk.injEq] at hc
      obtain ⟨rfl, rfl⟩ := hc
      refine wp_block (wp_mono (ih hb p f hn hr) fun e a w h => ?_)
      cases e with
      | normal => exact h
      | ret => exact h
      | exit j =>
        obtain ⟨e2, G', ρ', lam', st', e1, e3, e4, e5, e6⟩ := h
        simp only at e6
        simp only [Exit.inBlock]
        by_cases hj : j = i
        · subst hj
          simp only [Nat.beq_refl, cond] at e6
          simp only [if_true]
          exact ⟨e2, G', ρ', lam', st', e1, e3, e4, e5, e6⟩
        · have : Nat.beq j i = false := by rw [Bool.eq_false_iff]; intro h'; exact hj (Nat.eq_of_beq_eq_true h')
          simp only [this, cond] at e6
          simp only [hj, if_false]
          exact ⟨e2, G', ρ', lam', st', e1, e3, e4, e5, e6⟩
      | _ => exact h.elim
    · simp at hc
  | loop b ih =>
    intro l l' vc w0 w G0 G ρ0 ρ lam a st K hc p f hn hr
    cases l with
    | nil => simp [compC] at hc
    | cons q l =>
      obtain ⟨ts, bs⟩ := q
      simp only [compC] at hc
      split at hc
      · rename_i vb l1 hb
        simp only [Option.some.injEq, Prod.mk.injEq] at hc
        obtain ⟨rfl, rfl⟩ := hc
        simp only [run] at hr
        obtain ⟨hk, I, n, h0, hround⟩ := hr
        obtain ⟨ρ2, lam2, p2, hρ⟩ := p.forget (n := st.s.length) hk
        have hρ2 : ρ2 = ρ := by
          rcases hρ with rfl | rfl
          · rfl
          · rw [List.take_of_length_le]; rw [p.rel.ob.1]; exact Nat.le_refl _
        subst hρ2
        refine wp_loop_ghost (fun n a w => ∃ G ρ lam st, Pre n0 gl nt w G ρ lam a st ∧ Far w0 G0 ρ0 w G ρ ∧ I n st) n ⟨G, ρ2, lam2, _, p2, f, h0⟩ ?_
        rintro n1 a1 w1 ⟨G1, ρ1, lam1, st1, p1, f1, hI⟩
        refine wp_mono (ih hb p1 p1.far (Nat.le_trans hn f1.good.size) (hround n1 st1 hI)) fun e a' w' h => ?_
        exact run_loop_post p1.rel.ob.1.symm f1.pre f1.good h
      · simp at hc
  | exit i =>
    intro l l' vc w0 w G0 G ρ0 ρ lam a st K hc p f hn hr
    simp only [compC, Option.some.injEq, Prod.mk.injEq] at hc
    obtain ⟨rfl, rfl⟩ := hc
    exact wp_exit (f.after (p.after hr))
  | ret =>
    intro l l' vc w0 w G0 G ρ0 ρ lam a st K hc p f hn hr
    simp only [compC, Option.some.injEq, Prod.mk.injEq] at hc
    obtain ⟨rfl, rfl⟩ := hc
    exact wp_ret (f.after (p.after hr))
  | rangeFunc g ps x y _ _ =>
    intro l l' vc w0 w G0 G ρ0 ρ lam a st K hc p f hn hr
    exact wp_mono (hrf hc p (Nat.le_trans hn f.good.size) hr) fun e a w h => f.post h
  | scope _ => intro l l' vc w0 w G0 G ρ0 ρ lam a st K hc; simp [compC] at hc
  | label _ => intro l l' vc w0 w G0 G ρ0 ρ lam a st K hc; simp [compC] at hc
  | goto _ => intro l l' vc w0 w G0 G ρ0 ρ lam a st K hc; simp [compC] at hc
  | refuse _ => intro l l' vc w0 w G0 G ρ0 ρ lam a st K hc; simp [compC] at hc

end
end Go.Vm
end

section
/- Marks of ranges over functions; blocks that hold no cells and have no owner. Conditions: none. -/
namespace Go.Vm

section
variable {P : Program} {gl : Nat → List D} {n0 nt : Nat} {a : Act} {w w' w0 : World} {G G' G0 : Gh} {ρ ρ' ρ0 : List Nat} {lam lam' : Nat → Option Nat} {st st' : St} {K : St → Prop}

/-- Does an object hold no cells? -/
def noCells : Obj → Bool
  | .cells .. => false
  | _ => true

theorem put_keeps {b : Nat} {o o' : Obj} (h : w.heap[b]? = some o) (ho : noCells o = true) : Keeps w G (w.putObj b o') G := by
  intro b' off v hc
  refine ⟨?_, hc.2⟩
  have hne : b' ≠ b := by
    intro e
    subst e
    have := hc.1
    unfold World.cell? at this
    simp only [h] at this
    cases o <;> simp [noCells] at ho <;> simp at this
  rw [World.cell?_of_block (World.putObj_heap_other hne)]
  exact hc.1

theorem put_same {b : Nat} {o' : Obj} (hG : G b = none) (L : Loc) : SameL L L w G (w.putObj b o') G := by
  intro b' n hb
  have hne : b' ≠ b := by intro e; subst e; rw [hG] at hb; simp at hb
  exact ⟨World.putObj_heap_other hne, hb⟩

theorem RelS.putObj {b : Nat} {o o' : Obj} {tmps : Array Value} (p : RelS gl w G ρ lam tmps st) (h : w.heap[b]? = some o) (ho : noCells o = true) (hG : G b = none) : RelS gl (w.putObj b o') G ρ lam tmps st where
  tm t := (p.tm t).tr (put_keeps h ho) (fun _ _ h => h) (fun _ _ h => h) (put_same hG _)
  bx t cs hb := by
    obtain ⟨b', h1, h2⟩ := p.bx t cs hb
    exact ⟨b', h1, RelBox.tr (put_keeps h ho) (fun _ _ h => h) (put_same hG _) (fun _ => put_same hG _) h2⟩
  nb := p.nb
  ob := p.ob.tr (put_keeps h ho) (fun _ => put_same hG _) (fun _ _ => put_same hG _)
  gb := p.gb.tr (put_keeps h ho)
  lt b' L n hb := by rw [World.putObj_size]; exact p.lt b' L n hb

theorem Good.putObj {b : Nat} {o o' : Obj} (g : Good w0 G0 w G) (h : w.heap[b]? = some o) (ho : noCells o = true) (hb : w0.heap.size ≤ b) : Good w0 G0 (w.putObj b o') G where
  size := by rw [World.putObj_size]; exact g.size
  imm b' hb' hG := by
    obtain ⟨h1, h2⟩ := g.imm b' hb' hG
    exact ⟨(World.putObj_heap_other (by omega)).trans h1, h2⟩
  new := g.new
  old := g.old
  keep := g.keep.trans (put_keeps h ho)
  os := g.os
  out := g.out

theorem Marks.tail {D : Nat} {Ds : List Nat} (h : Marks n0 w G ((D :: Ds).map mark)) : D ∉ Ds ∧ n0 ≤ D ∧ w.heap[D]? = some (.deferred (some [])) ∧ G D = none ∧ Marks n0 w G (Ds.map mark) := by
  obtain ⟨Es, h1, h2, h3⟩ := h
  have hE : Es = D :: Ds := by
    have inj : ∀ (l l' : List Nat), l.map mark = l'.map mark → l = l' := by
      intro l
      induction l with
      | nil => intro l' h; cases l' with | nil => rfl | cons _ _ => simp at h
      | cons x l ih =>
        intro l' h
        cases l' with
        | nil => simp at h
        | cons y l' =>
          simp only [List.map_cons, List.cons.injEq, mark, Deferred.mk.injEq, Target.collected.injEq, and_true] at h
          rw [h.1, ih l' (by simpa [mark] using h.2)]
    exact (inj _ _ h1).symm
  subst hE
  obtain ⟨e1, e2, e3⟩ := h3 D (by simp)
  exact ⟨(List.nodup_cons.1 h2).1, e1, e2, e3, Ds, rfl, (List.nodup_cons.1 h2).2, fun x hx => h3 x (by simp [hx])⟩

/-- A function that leaves with marks. -/
theorem leaves_marks {fn : Func} {tmps : Array Value} {R : Ending → World → Prop} : ∀ (Ds : List Nat) {w : World}, RelS gl w G ρ lam tmps st → Good w0 G0 w G → Marks w0.heap.size w G (Ds.map mark) →
    (∀ w, RelS gl w G ρ lam tmps st → Good w0 G0 w G → ∃ v, (results fn tmps).run P w = .ok v w ∧ R (.returned v) w) → LeavesInM Fence.wide 0 P fn tmps R (Ds.map mark) .returning w
  | [], w, p, g, _, h => h w p g
  | D :: Ds, w, p, g, hm, h => by
    obtain ⟨h1, h2, h3, h4, h5⟩ := hm.tail
    refine ⟨by simp, .inl ⟨D, w.putObj D (.deferred none), rfl, run_takeDeferred h3, ?_⟩⟩
    refine leaves_marks Ds (p.putObj h3 rfl h4) (g.putObj h3 rfl h2) ?_ h
    obtain ⟨Es, e1, e2, e3⟩ := h5
    refine ⟨Es, e1, e2, fun E hE => ?_⟩
    obtain ⟨f1, f2, f3⟩ := e3 E hE
    have hne : E ≠ D := by
      intro e
      subst e
      have hEs : mark E ∈ Ds.map mark := by rw [e1]; exact List.mem_map_of_mem hE
      obtain ⟨x, hx, he⟩ := List.mem_map.1 hEs
      simp only [mark, Deferred.mk.injEq, Target.collected.injEq, and_true] at he
      exact h1 (he ▸ hx)
    exact ⟨f1, (World.putObj_heap_other hne).trans f2, f3⟩

end
end Go.Vm
end

section
/- Functions, translated, against the kit's calls. Conditions: none. -/
namespace Go.Vm

section
variable {P : Program} {gl : Nat → List D} {n0 nt : Nat} {a : Act} {w w' w0 : World} {G G' G0 : Gh} {ρ ρ' ρ0 : List Nat} {lam lam' : Nat → Option Nat} {st st' : St} {K : St → Prop} {o : Oper} {Q : Exit → Act → World → Prop}

theorem init_rel : ∀ {args : List Val} {vs : List Value} {n : Nat} {t : Nat}, RelL w G ρ vs args → (hn : n ≤ t) → RelA w G ρ ((vs[t - n]?).getD undef) (initT args n t)
  | [], vs, n, t, h, _ => by
    cases h
    simp only [List.getElem?_nil, Option.getD_none, initT]
    exact .tuple [] [] .nil
  | x :: args, vs, n, t, h, hn => by
    cases h with
    | cons v _ vs _ h1 h2 =>
      simp only [initT, upd_eq]
      by_cases ht : t = n
      · subst ht; simpa using h1
      · rw [if_neg ht]
        have := init_rel (n := n + 1) (t := t) h2 (by omega)
        rw [show t - n = (t - (n + 1)) + 1 by omega, List.getElem?_cons_succ]
        exact this

theorem loadVar_of {t b off : Nat} {v : Value} (h : (Instr.loadAt t (.pointer (some ⟨b, off, none⟩))).run P w = .ok v w) : (loadVar t ⟨b, off, none⟩).run P w = .ok v w := by
  simpa only [Instr.loadAt, Instr.sureAddr, Sem.run_bind, Sem.run_pure, Result.andThen_ok] using h

def resM (tmps : Array Value) : ResultVar → Sem Value
  | .tmp t => pure (tmps.getD t undef)
  | .cell c t => do loadVar t (← asAddr (tmps.getD c undef))

theorem results_run (fn : Func) (tmps : Array Value) (w : World) :
    (results fn tmps).run P w = ((fn.results.toList.mapM (resM tmps)).run P w).andThen fun vs w' => .ok (match vs with | [v] => v | vs => .tuple ⟨vs⟩) w' := by
  have : results fn tmps = (do let vs ← fn.results.mapM (resM tmps); pure (if h : vs.size = 1 then vs[0] else .tuple vs)) := rfl
  rw [this, Array.mapM_eq_mapM_toList]
  simp only [Sem.run_bind, map_eq_pure_bind, bind_assoc, Sem.run_pure, pure_bind]
  cases (fn.results.toList.mapM (resM tmps)).run P w with
  | halt h w' => rfl
  | ok vs w' =>
    simp only [Result.andThen_ok]
    cases vs with
    | nil => simp
    | cons v vs => cases vs with
      | nil => simp
      | cons u vs => simp

theorem res_rel {an : Ann} {rv : ResultVar} {r : Res} {x : Val} (p : Pre n0 gl nt w G ρ lam a st) (hc : compRes P an rv = some r) (hr : resOf st r = some x) :
    ∃ v, (resM a.tmps rv).run P w = .ok v w ∧ RelT w G ρ lam .res v x := by
  cases rv with
  | tmp t =>
    simp only [compRes, Option.some.injEq] at hc
    subst hc
    simp only [resOf, Option.some.injEq] at hr
    subst hr
    exact ⟨_, by simp only [resM, Sem.run_pure], (p.rel.tm t).frz⟩
  | cell c t =>
    simp only [compRes, Option.bind_eq_bind, Option.bind_eq_some_iff] at hc
    obtain ⟨n, hn, ag, hag, hc⟩ := hc
    split at hc
    · rename_i h1
      have h1 : ag = false → n = 1 := by intro h; subst h; simpa using h1
      simp only [Option.some.injEq] at hc
      have hT := p.rel.tm c
      split at hc
      · subst hc
        simp only [resOf] at hr
        split at hr
        · rename_i i off he
          rw [he] at hT
          have hA : RelA w G ρ (a.tmps.getD c undef) (.ptr i off) := hT
          generalize hv : a.tmps.getD c undef = v at hA
          cases hA with
          | ptr _ _ b hb =>
            have hO := p.rel.ob.at hb
            split at hr
            · rename_i cs hcs
              rw [hcs] at hO
              cases hle : Nat.ble (off + n) cs.length with
              | false => rw [hle] at hr; simp at hr
              | true =>
                rw [hle] at hr
                simp only [cond, Option.some.injEq] at hr
                subst hr
                obtain ⟨v, hrun, hrel⟩ := load_run hO (Nat.le_of_ble_eq_true hle) hn hag h1
                refine ⟨v, ?_, .of_A hrel⟩
                simp only [resM, Sem.run_bind, hv, asAddr, Sem.run_pure, Result.andThen_ok]
                exact loadVar_of hrun
            · simp at hr
        · simp at hr
      · subst hc
        simp only [resOf] at hr
        split at hr
        · rename_i t' he
          rw [he] at hT
          obtain ⟨b, hb, hv⟩ := hT
          split at hr
          · rename_i cs hcs
            obtain ⟨b', hb', hO⟩ := p.rel.bx t' cs hcs
            rw [hb'] at hb
            simp only [Option.some.injEq] at hb
            subst hb
            cases hle : Nat.ble n cs.length with
            | false => rw [hle] at hr; simp at hr
            | true =>
              rw [hle] at hr
              simp only [cond, Option.some.injEq] at hr
              subst hr
              obtain ⟨v, hrun, hrel⟩ := load_run (off := 0) hO (by rw [Nat.zero_add]; exact Nat.le_of_ble_eq_true hle) hn hag h1
              refine ⟨v, ?_, .of_A hrel⟩
              simp only [resM, Sem.run_bind, hv, asAddr, Sem.run_pure, Result.andThen_ok]
              exact loadVar_of hrun
          · simp at hr
        · simp at hr
    · simp at hc

theorem relA_frz {L : Loc} {v : Value} {x : Val} {n : Nat} (h : RelT w G ρ lam L v x) (hn : noL n (frz x) = true) : RelA w G ρ v (frz x) := by
  rcases h.cases with h | ⟨t, off, b, rfl, _, _⟩
  · exact h.frz
  · cases n <;> simp [frz, noL] at hn

/-- Several results. -/
theorem res_all {an : Ann} (p : Pre n0 gl nt w G ρ lam a st) : ∀ {l : List ResultVar} {rs : List Res} {xs : List Val}, l.mapM (compRes P an) = some rs → resAll st rs = some xs → xs.all (noL (depth - 1)) = true →
    ∃ vs, (l.mapM (resM a.tmps)).run P w = .ok vs w ∧ RelL w G ρ vs xs
  | [], rs, xs, hc, hr, _ => by
    have := mapM_all2 hc
    cases this
    simp only [resAll, Option.some.injEq] at hr
    subst hr
    exact ⟨[], by simp only [List.mapM_nil, Sem.run_pure], .nil⟩
  | rv :: l, rs, xs, hc, hr, hn => by
    simp only [List.mapM_cons, Option.bind_eq_bind, Option.bind_eq_some_iff, Option.pure_def, Option.some.injEq] at hc
    obtain ⟨r, h1, rs, h2, rfl⟩ := hc
    simp only [resAll] at hr
    split at hr
    · rename_i x xs e1 e2
      simp only [Option.some.injEq] at hr
      subst hr
      simp only [List.all_cons, Bool.and_eq_true] at hn
      obtain ⟨v, hv, hT⟩ := res_rel p h1 e1
      obtain ⟨vs, hvs, hL⟩ := res_all p h2 e2 hn.2
      refine ⟨v :: vs, ?_, .cons _ _ _ _ (relA_frz hT hn.1) hL⟩
      rw [List.mapM_cons]
      simp only [Sem.run_bind]
      rw [hv]
      simp only [Result.andThen_ok]
      rw [hvs]
      simp only [Result.andThen_ok, Sem.run_pure]
    · simp at hr

/-- What a function hands back, of its last state. -/
theorem fin_rel {an : Ann} {fn : Func} {rs : List Res} {r : Val} (p : Pre n0 gl nt w G ρ lam a st) (hc : compRs P an fn.results.toList = some rs) (hr : resVal st rs = some r) (hn : noL depth r = true) :
    ∃ v G2, (results fn a.tmps).run P w = .ok v w ∧ RelV w G2 ρ .res v r ∧ RelObs w G2 ρ st.s ∧ (∀ b L n, G2 b = some (L, n) → b < w.heap.size) ∧ Good w G w G2 := by
  unfold compRs at hc
  split at hc
  · rename_i t ho hl
    simp only [Option.some.injEq] at hc
    subst hc
    simp only [resVal, resOf, Option.some.injEq] at hr
    subst hr
    have hs : SameL (.slot t) .res w G w (relab (swapL (.slot t) .res) G) := by
      have := relab_same (w := w) (G := G) (swapL (.slot t) .res) (.slot t)
      rwa [swapL_self] at this
    have hid : ∀ L, L ≠ .slot t → SameL L L w G w (relab (swapL (.slot t) .res) G) := fun L hL => relab_same' (swapL_ne hL)
    have hT := (p.rel.tm t).tr (lam' := lam) (relab_keeps _) (fun _ _ h => h) (fun _ _ h => h) hs
    refine ⟨_, relab (swapL (.slot t) .res) G, ?_, hT.of_noL hn, p.rel.ob.tr (relab_keeps _) (fun i => hid _ (by simp)) (fun i j => hid _ (by simp)), relab_lt p.rel.lt, swap_good p.rel.lt (by simp) (by simp)⟩
    rw [results_run, hl]
    simp only [List.mapM_cons, List.mapM_nil, resM, Sem.run_bind, Sem.run_pure, Result.andThen_ok]
  · simp at hc
  · rename_i ho
    by_cases h1 : ∃ r0, rs = [r0]
    · obtain ⟨r0, rfl⟩ := h1
      have hl : ∃ rv, fn.results.toList = [rv] ∧ compRes P an rv = some r0 := by
        have := mapM_all2 hc
        generalize fn.results.toList = l at this
        cases this with
        | cons h1 h2 => cases h2; exact ⟨_, rfl, h1⟩
      obtain ⟨rv, hl, hrv⟩ := hl
      simp only [resVal] at hr
      obtain ⟨v, hv, hT⟩ := res_rel p hrv hr
      refine ⟨v, G, ?_, hT.of_noL hn, p.rel.ob, p.rel.lt, Good.refl p.rel.lt⟩
      rw [results_run, hl]
      simp only [List.mapM_cons, List.mapM_nil, Sem.run_bind, hv, Sem.run_pure, Result.andThen_ok]
    · replace hr : (resAll st rs).map .tuple = some r := by
        unfold resVal at hr
        split at hr
        · exact absurd ⟨_, rfl⟩ h1
        · exact hr
      simp only [Option.map_eq_some_iff] at hr
      obtain ⟨xs, hx, rfl⟩ := hr
      obtain ⟨vs, hvs, hL⟩ := res_all p hc hx (by simpa [noL, depth] using hn)
      refine ⟨.tuple ⟨vs⟩, G, ?_, .of_A (.tuple _ _ hL), p.rel.ob, p.rel.lt, Good.refl p.rel.lt⟩
      rw [results_run, hvs]
      simp only [Result.andThen_ok]
      have hlen : vs.length = rs.length := by
        rw [hL.length]
        clear hc hvs hL hn ho h1
        induction rs generalizing xs with
        | nil => simp only [resAll, Option.some.injEq] at hx; subst hx; rfl
        | cons r rs ih =>
          simp only [resAll] at hx
          split at hx
          · rename_i e1 e2
            simp only [Option.some.injEq] at hx
            subst hx
            simp [ih _ e2]
          · simp at hx
      cases vs with
      | nil => rfl
      | cons v vs => cases vs with
        | nil =>
          exfalso
          cases rs with
          | nil => simp at hlen
          | cons r rs => cases rs with
            | nil => exact h1 ⟨r, rfl⟩
            | cons _ _ => simp at hlen
        | cons _ _ => rfl

/-- A function's contract, where its body's code is so. -/
theorem vev_of_sim {an : Ann} {f : Nat} {fn : Func} {c : Code} {vc : VC} {rs : List Res} {args : List Val} {s s' : Store} {r : Val} (hf : P.funcs[f]? = some fn) (hname : (fn.name == "runtime.NumGoroutine") = false) (hb : fn.body = some c)
    (hrs : compRs P an fn.results.toList = some rs)
    (hsim : ∀ (n0 : Nat) (w : World) (G : Gh) (ρ : List Nat) (lam : Nat → Option Nat) (a : Act) (st : St) {K : Ex → St → Prop}, Pre n0 gl fn.ntmps w G ρ lam a st → n0 ≤ w.heap.size → run (AP P gl) gl vc st K → c.wp P (Post n0 gl fn.ntmps w G ρ K) a w)
    (hr : runF (AP P gl) gl ⟨vc, rs⟩ args s fun r' s'' => r' = r ∧ s'' = s') : VEv P gl f args s r s' := by
  refine ⟨⟨fn, hf, by rw [hb]; rfl, hname⟩, ?_⟩
  intro w G ρ vs hob hg hlt hargs
  refine callsIn_wide.1 (callsIn_of_wp_marks (n := 0) hf hb trivial (wpIn_wide.2 ?_))
  have p : Pre w.heap.size gl fn.ntmps w G ρ (fun _ => none) { tmps := (⟨vs⟩ : Array Value) ++ Array.replicate (fn.ntmps - (⟨vs⟩ : Array Value).size) undef, defers := [] } { tm := initT args 0, bx := fun _ => none, s } := by
    refine ⟨⟨?_, fun t cs h => by simp at h, fun _ _ => rfl, hob, hg, hlt⟩, .nil, ?_⟩
    · intro t
      have h1 := init_rel (n := 0) (t := t) hargs (Nat.zero_le _)
      have h2 : (((⟨vs⟩ : Array Value) ++ Array.replicate (fn.ntmps - (⟨vs⟩ : Array Value).size) undef).getD t undef) = (vs[t - 0]?).getD undef := by
        rw [Array.getD_eq_getD_getElem?, Array.getElem?_append, Nat.sub_zero]
        split
        · simp
        · rename_i ht
          have ht : vs.length ≤ t := by simpa using ht
          rw [List.getElem?_eq_none ht, Array.getElem?_replicate]
          split <;> rfl
      rw [h2]
      exact .of_A h1
    · simp; omega
  unfold runF at hr
  refine wp_mono (hsim w.heap.size w G ρ (fun _ => none) _ _ p (Nat.le_refl _) hr) ?_
  have fin : ∀ (a' : Act) (w' : World), After w.heap.size gl fn.ntmps w G ρ (fun st => match resVal st rs with
      | some r' => noL depth r' = true ∧ (r' = r ∧ gc s.length r' st.s = s')
      | none => False) a' w' → LeavesInM Fence.wide 0 P fn a'.tmps (fun e w' => ∃ v G' ρ', e = .returned v ∧ RelV w' G' ρ' .res v r ∧ RelObs w' G' ρ' s' ∧
        (∀ b L n, G' b = some (L, n) → b < w'.heap.size) ∧ Good w G w' G' ∧ (∀ i b : Nat, ρ[i]? = some b → ρ'[i]? = some b) ∧ s.length ≤ s'.length) a'.defers .returning w' := by
    rintro a' w' ⟨e2, G', ρ', lam', st', e1, e3, e4, e5, e6⟩
    split at e6
    · rename_i r' hr'
      obtain ⟨hn, rfl, hs⟩ := e6
      have hρl : s.length ≤ ρ'.length := by
        rw [← hob.1]
        rcases Nat.eq_zero_or_pos ρ.length with h0 | h0
        · omega
        · have hlast : ρ[ρ.length - 1]? = some (ρ[ρ.length - 1]'(by omega)) := List.getElem?_eq_getElem (by omega)
          have := e5 _ _ hlast
          rcases Nat.lt_or_ge (ρ.length - 1) ρ'.length with h | h
          · omega
          · rw [List.getElem?_eq_none h] at this; simp at this
      have e1' := e1
      obtain ⟨Ds, hDs, _, _⟩ := e1'
      rw [hDs] at e1 ⊢
      refine leaves_marks Ds e3 e4 e1 fun w' e3 e4 => ?_
      have p' : Pre 0 gl fn.ntmps w' G' ρ' lam' { a' with defers := [] } st' := ⟨e3, .nil, e2⟩
      obtain ⟨v, G2, h1, h2, h3, h4, h5⟩ := fin_rel p' hrs hr' hn
      refine ⟨v, h1, v, G2, ?_⟩
      unfold gc at hs
      cases hcnd : (okR s.length depth r' && (st'.s.take s.length).all (Ob.okR s.length)) with
      | false =>
        rw [hcnd] at hs
        simp only [cond] at hs
        subst hs
        exact ⟨ρ', rfl, h2, h3, h4, e4.trans h5, e5, by rw [← h3.1]; exact hρl⟩
      | true =>
        rw [hcnd] at hs
        simp only [cond] at hs
        simp only [Bool.and_eq_true] at hcnd
        subst hs
        refine ⟨ρ'.take s.length, rfl, okR_V h2 hcnd.1, okR_obs h3 hcnd.2, h4, e4.trans h5, ?_, ?_⟩
        · intro i b hi
          refine take_get ?_ (e5 i b hi)
          rw [← hob.1]
          rcases Nat.lt_or_ge i ρ.length with h | h
          · exact h
          · rw [List.getElem?_eq_none h] at hi; simp at hi
        · rw [List.length_take, ← h3.1]; omega
    · exact e6.elim
  intro e a' w' h
  cases e with
  | normal => exact fin a' w' h
  | ret => exact fin a' w' h
  | exit i => obtain ⟨_, _, _, _, _, _, _, _, _, h⟩ := h; exact h.elim
  | _ => exact h.elim

/-- What the machine computes, the call computes. -/
theorem vev_of_run (hany : AnyLaw P gl) (hrf : RangeLaw P gl) {an : Ann} {f : Nat} {fn : Func} {vf : VF} {args : List Val} {s s' : Store} {r : Val} (hf : P.funcs[f]? = some fn) (hname : (fn.name == "runtime.NumGoroutine") = false) (hc : compF P an fn = some vf)
    (hr : runF (AP P gl) gl vf args s fun r' s'' => r' = r ∧ s'' = s') : VEv P gl f args s r s' := by
  unfold compF at hc
  simp only [Option.bind_eq_bind, Option.bind_eq_some_iff] at hc
  obtain ⟨c, hb, ⟨vc, l'⟩, hcc, rs, hrs, hvf⟩ := hc
  simp only [Option.some.injEq] at hvf
  subst hvf
  exact vev_of_sim hf hname hb hrs (fun n0 w G ρ lam a st K p hn hr => sim_code hany hrf c hcc p p.far hn hr) hr

end
end Go.Vm
end
