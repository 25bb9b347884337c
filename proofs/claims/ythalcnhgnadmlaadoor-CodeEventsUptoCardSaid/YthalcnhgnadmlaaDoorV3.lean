/- Part of a small abstract machine over the kit. Conditions: none. -/
import Derived.Test.YthalcnhgnadmlaaDoorV2
import Derived.Laws.BytesString
section
/- Parts of values, literals, functions, strings of bytes, tests against nil. Conditions: none. -/
namespace Go.Vm

section
variable {P : Program} {gl : Nat → List D} {n0 nt : Nat} {a : Act} {w w' : World} {G G' : Gh} {ρ ρ' : List Nat} {lam lam' : Nat → Option Nat} {st st' : St} {K : St → Prop} {o : Oper} {Q : Exit → Act → World → Prop}

theorem sim_fd {d t f n t1 : Nat} {ag : Bool} {x : Operand} {x' : O} {fs : Array Field} {fl : Field} (p : Pre n0 gl nt w G ρ lam a st) (hod : o.dst = some d) (hdt : d < nt) (hop : o.op = .field t x f) (hx : opd P t1 x = some x')
    (hu : P.underlying t = some (.struct fs)) (hf : fs[f]? = some fl) (hz : szOf P fl.type = some n) (hag : aggOf P fl.type = some ag) (hone : ag = false → n = 1)
    (hs : step (AP P gl) gl (.fd d x' fl.offset n ag) st K) : o.wp P a w (After n0 gl nt w G ρ K) Q := by
  obtain ⟨L1, h1⟩ := ev_any hx p.rel
  simp only [step] at hs
  obtain ⟨hg, hs⟩ := hs
  simp only [Bool.and_eq_true] at hg
  obtain ⟨hia, hn⟩ := hg
  have hn := Nat.le_of_ble_eq_true hn
  -- the value is a struct's
  have hagg : ∃ vs, a.eval x = .agg ⟨vs⟩ ∧ RelL w G ρ vs (cellsOf (ev gl st x')) := by
    cases he : ev gl st x' <;> rw [he] at h1 hia <;> simp [isAggV] at hia
    case agg cs =>
      have h1' : RelA w G ρ (a.eval x) (.agg cs) := h1
      cases hv : a.eval x <;> rw [hv] at h1' <;> cases h1'
      rename_i vs h
      exact ⟨vs, rfl, h⟩
    case d y =>
      cases y <;> simp at hia
      have h1' := h1.dat
      cases hv : a.eval x <;> rw [hv] at h1' <;> cases h1'
      rename_i vs h
      exact ⟨vs, rfl, h.toRelL⟩
  obtain ⟨vs, hv, hL⟩ := hagg
  have hl := hL.length
  cases ag with
  | true =>
    refine p.value hod hdt (v := .agg ((⟨vs⟩ : Array Value).extract fl.offset (fl.offset + n))) ?_ (.of_A (x := valOf (cellsOf (ev gl st x')) fl.offset n true) ?_) hs
    · simp only [execOp, hop, hv, Instr.field, Sem.run_bind, underlying_run hu, Result.andThen_ok, hf, asAgg, Sem.run_pure, part, aggOf_run hag, if_true, szOf_run hz]
    · have : (⟨vs⟩ : Array Value).extract fl.offset (fl.offset + n) = ⟨(vs.drop fl.offset).take n⟩ := by
        apply Array.ext'; simp
      rw [this]
      exact frz_agg (LC := fun _ => .res) (by simp [hl]) fun j v y h3 h4 => .of_A (((hL.drop _).take _).get h3 h4)
  | false =>
    obtain rfl := hone rfl
    have hlt : fl.offset < vs.length := by omega
    have hg : (⟨vs⟩ : Array Value)[fl.offset]? = some vs[fl.offset] := by simp [hlt]
    refine p.value hod hdt (v := vs[fl.offset]) ?_ (.of_A (x := valOf (cellsOf (ev gl st x')) fl.offset 1 false) ?_) hs
    · simp only [execOp, hop, hv, Instr.field, Sem.run_bind, underlying_run hu, Result.andThen_ok, hf, asAgg, Sem.run_pure, part, aggOf_run hag, Bool.false_eq_true, if_false, hg]
    · have hx' : (cellsOf (ev gl st x'))[fl.offset]? = some ((cellsOf (ev gl st x')).getD fl.offset .undef) := by rw [List.getD_eq_getElem?_getD, List.getElem?_eq_getElem (by omega)]; rfl
      have hr := hL.get (List.getElem?_eq_getElem hlt) hx'
      exact (RelV.of_A (L := .res) hr).snap

/-! ### Literals of structs -/

theorem putCells_rel : ∀ {us : List Value} {xs : List Val} {off : Nat} {vs : List Value} {cs : List Val}, RelL w G ρ us xs → RelL w G ρ vs cs →
    ∃ vs', RelL w G ρ vs' (putCells cs off xs) ∧ vs' = (us.zipIdx.foldl (fun (c : Array Value) (p : Value × Nat) => c.setIfInBounds (off + p.2) p.1) ⟨vs⟩).toList := by
  intro us
  suffices h : ∀ (us : List Value) (k : Nat) (xs : List Val) (off : Nat) (vs : List Value) (cs : List Val), RelL w G ρ us xs → RelL w G ρ vs cs →
      RelL w G ρ (((us.zipIdx k).foldl (fun (c : Array Value) (p : Value × Nat) => c.setIfInBounds (off + p.2) p.1) ⟨vs⟩).toList) (putCells cs (off + k) xs) from
    fun {xs off vs cs} h1 h2 => ⟨_, by simpa using h us 0 xs off vs cs h1 h2, rfl⟩
  intro us
  induction us with
  | nil => intro k xs off vs cs h1 h2; cases h1; simpa [putCells] using h2
  | cons u us ih =>
    intro k xs off vs cs h1 h2
    cases h1 with
    | cons _ x _ xs hx hxs =>
      simp only [List.zipIdx_cons, List.foldl_cons, putCells]
      have h3 : RelL w G ρ (vs.set (off + k) u) (cs.set (off + k) x) := by
        refine .mk (by simp [h2.length]) fun j v y hv hy => ?_
        by_cases hj : j = off + k
        · subst hj
          have hl : off + k < vs.length := by
            rcases Nat.lt_or_ge (off + k) vs.length with h' | h'
            · exact h'
            · rw [List.getElem?_eq_none (by simpa using h')] at hv; simp at hv
          rw [List.getElem?_set_self hl] at hv
          rw [List.getElem?_set_self (by rw [← h2.length]; exact hl)] at hy
          simp only [Option.some.injEq] at hv hy
          subst hv; subst hy; exact hx
        · rw [List.getElem?_set_ne (Ne.symm hj)] at hv hy
          exact h2.get hv hy
      have h4 := ih (k + 1) xs off (vs.set (off + k) u) (cs.set (off + k) x) hxs h3
      rw [show off + (k + 1) = off + k + 1 by omega] at h4
      have h5 : (⟨vs⟩ : Array Value).setIfInBounds (off + k) u = ⟨vs.set (off + k) u⟩ := by apply Array.ext'; simp
      rw [h5]
      exact h4

theorem putCells_length : ∀ {xs : List Val} {off : Nat} {cs : List Val}, (putCells cs off xs).length = cs.length
  | [], _, _ => rfl
  | x :: xs, off, cs => by simp only [putCells, putCells_length, List.length_set]

/-- The parts of a literal, laid over its cells. -/
theorem fill_run {place : Nat → Option (Nat × Nat)} (p : Pre n0 gl nt w G ρ lam a st) : ∀ {ps : List (Nat × Operand)} {qs : List (Nat × Nat × O)} {cs cs' : List Val} {vs : List Value},
    All2 (fun (q : Nat × Operand) (r : Nat × Nat × O) => place q.1 = some (r.1, r.2.1) ∧ ∃ t, opd P t q.2 = some r.2.2) ps qs → RelL w G ρ vs cs → fillP gl st cs qs = some cs' →
    ∃ vs', Instr.fill place ⟨vs⟩ (ps.map fun q => (q.1, a.eval q.2)) = some ⟨vs'⟩ ∧ RelL w G ρ vs' cs'
  | [], _, cs, cs', vs, h, hr, hf => by
    cases h
    simp only [fillP, Option.some.injEq] at hf
    subst hf
    exact ⟨vs, rfl, hr⟩
  | (i, x) :: ps, _, cs, cs', vs, h, hr, hf => by
    cases h with
    | cons hq h =>
      rename_i r qs
      obtain ⟨off, n, x'⟩ := r
      obtain ⟨hpl, t, hx⟩ := hq
      simp only [fillP] at hf
      cases hg : (Nat.beq (cellsOf (frz (snap (ev gl st x')))).length n && Nat.ble (off + n) cs.length && (cellsOf (frz (snap (ev gl st x')))).all (noL depth)) with
      | false => simp [hg] at hf
      | true =>
        simp only [hg, cond_true] at hf
        simp only [Bool.and_eq_true] at hg
        obtain ⟨⟨hg1, hg2⟩, hg3⟩ := hg
        have hg1 := Nat.eq_of_beq_eq_true hg1
        have hg2 := Nat.le_of_ble_eq_true hg2
        have hT := (ev_snap (L := .res) hx p.rel).frz (L' := .res)
        have hA : RelA w G ρ (a.eval x) (frz (snap (ev gl st x'))) := by
          rcases hT.cases with h | ⟨t', o', b, e, _, _⟩
          · rcases h.cases with h | ⟨sz, d, l, e, _⟩
            · exact h
            · exfalso
              cases hv : ev gl st x' <;> rw [hv] at e <;> simp [snap, frz] at e
              rename_i cs2
              cases hfl : frzL cs2 <;> simp [hfl] at e
          · rw [e] at hg3; simp [cellsOf, noL] at hg3
        have hL := hA.cells hg3
        obtain ⟨vs1, hr1, e1⟩ := putCells_rel (off := off) hL hr
        obtain ⟨vs', h2, h3⟩ := fill_run p h hr1 hf
        refine ⟨vs', ?_, h3⟩
        simp only [List.map_cons, Instr.fill, hpl]
        have hsz : (a.eval x).cells.size = n := by rw [← hg1, ← hL.length, Array.length_toList]
        have hvl : vs.length = cs.length := hr.length
        have hcond : ((a.eval x).cells.size ≠ n || off + (a.eval x).cells.size > (⟨vs⟩ : Array Value).size) = false := by
          simp [hsz]; omega
        rw [if_neg (by rw [hcond]; simp)]
        rw [← h2, e1, ← Array.foldl_toList]
        congr 1
        apply Array.ext'
        simp [Array.toList_zipIdx]

end
end Go.Vm
end

section
/- Literals, function values, tests against nil, bytes and strings. Conditions: none. -/
namespace Go.Vm

section
variable {P : Program} {gl : Nat → List D} {n0 nt : Nat} {a : Act} {w w' : World} {G G' : Gh} {ρ ρ' : List Nat} {lam lam' : Nat → Option Nat} {st st' : St} {K : St → Prop} {o : Oper} {Q : Exit → Act → World → Prop}

theorem mapM_all2 {α β : Type} {f : α → Option β} : ∀ {l : List α} {l' : List β}, l.mapM f = some l' → All2 (fun x y => f x = some y) l l'
  | [], l', h => by simp at h; subst h; exact .nil
  | x :: l, l', h => by
    simp only [List.mapM_cons, Option.bind_eq_bind, Option.pure_def] at h
    cases hx : f x with
    | none => simp [hx] at h
    | some y =>
      cases hl : l.mapM f with
      | none => simp [hx, hl] at h
      | some ys =>
        simp [hx, hl] at h
        subst h
        exact .cons hx (mapM_all2 hl)

theorem mapM_some {α β : Type} {f : α → Option β} : ∀ {l : List α}, (∀ x, x ∈ l → ∃ y, f x = some y) → ∃ l', l.mapM f = some l'
  | [], _ => ⟨[], rfl⟩
  | x :: l, h => by
    obtain ⟨y, hy⟩ := h x (by simp)
    obtain ⟨l', hl⟩ := mapM_some (l := l) fun z hz => h z (by simp [hz])
    exact ⟨y :: l', by simp [hy, hl]⟩

theorem mapM_get {α β : Type} {f : α → Option β} : ∀ {l : List α} {l' : List β} {i : Nat} {x : α}, l.mapM f = some l' → l[i]? = some x → ∃ y, l'[i]? = some y ∧ f x = some y
  | [], _, _, _, _, h => by simp at h
  | z :: l, l', i, x, h, hi => by
    simp only [List.mapM_cons, Option.bind_eq_bind, Option.pure_def] at h
    cases hx : f z with
    | none => simp [hx] at h
    | some y =>
      cases hl : l.mapM f with
      | none => simp [hx, hl] at h
      | some ys =>
        simp [hx, hl] at h
        subst h
        cases i with
        | zero => simp at hi; subst hi; exact ⟨y, rfl, hx⟩
        | succ i =>
          simp at hi
          obtain ⟨y', h1, h2⟩ := mapM_get hl hi
          exact ⟨y', by simpa using h1, h2⟩

theorem All2.imp {α β : Type} {R S : α → β → Prop} (hi : ∀ x y, R x y → S x y) : ∀ {l : List α} {l' : List β}, All2 R l l' → All2 S l l'
  | _, _, .nil => .nil
  | _, _, .cons h t => .cons (hi _ _ h) (t.imp hi)

theorem info_of_underlying {t : Nat} {d : TypeDesc} (h : P.underlying t = some d) : ∃ i, P.info? t = some i := by
  unfold Program.underlying at h
  split at h
  · rename_i i hi; exact ⟨_, hi⟩
  · rename_i i hi; exact ⟨_, hi⟩
  · simp at h

theorem info_of_zeros {n t : Nat} {z : List Val} (h : zerosOf P n t = some z) : ∃ i, P.info? t = some i := by
  cases n with
  | zero => simp [zerosOf] at h
  | succ n =>
    unfold zerosOf at h
    cases hu : P.underlying t with
    | none => simp [hu] at h
    | some d => exact info_of_underlying hu

theorem zerosOf_of_zeros {t : Nat} {z : List Val} (h : zeros P t = some z) : zerosOf P 20 t = some z := by
  unfold zeros at h
  simp only [Option.bind_eq_bind] at h
  cases h1 : zerosOf P 20 t with
  | none => simp [h1] at h
  | some cs =>
    cases h2 : P.info? t with
    | none => simp [h1, h2] at h
    | some i =>
      cases h3 : i.zero with
      | none => simp [h1, h2, h3] at h
      | some v =>
        simp only [h1, h2, h3, Option.bind_some] at h
        split at h
        · exact h
        · simp at h

theorem built_fill {t : Nat} {z : List Val} {i : TypeInfo} {v : Value} (hz : zeros P t = some z) (hi : P.info? t = some i) (hv : i.zero = some v) {ps : List (Nat × Value)} {cs : Array Value}
    (hf : Instr.fill (partOf P t) v.cells ps = some cs) (hst : ∃ d, P.underlying t = some d ∧ d.isRow = true) : P.built t ps = some cs := by
  obtain ⟨d, hu, hd⟩ := hst
  have h20 := zerosOf_of_zeros hz
  cases d with
  | struct fs =>
    have hall : ∃ places, fs.toList.mapM (fun f => (P.info? f.type).map fun i => (f.offset, i.size)) = some places := by
      unfold zerosOf at h20
      simp only [hu] at h20
      cases hm : fs.toList.mapM fun f => zerosOf P 19 f.type with
      | none => simp [hm] at h20
      | some l =>
        refine mapM_some fun f hf => ?_
        obtain ⟨j, hj⟩ := List.getElem?_of_mem hf
        obtain ⟨y, _, hy⟩ := mapM_get hm hj
        obtain ⟨ii, hii⟩ := info_of_zeros hy
        exact ⟨_, by rw [hii]; rfl⟩
    obtain ⟨places, hp⟩ := hall
    unfold Program.built
    simp only [hi, hu, hv, hp]
    have hpl : (fun x => places.toArray[x]?) = partOf P t := by
      funext k
      unfold partOf
      simp only [hu]
      cases hk : fs[k]? with
      | none =>
        have : places.length = fs.toList.length := by
          have := mapM_all2 hp
          clear hp
          generalize fs.toList = l at this
          induction this with
          | nil => rfl
          | cons _ _ ih => simp [ih]
        have hge : fs.size ≤ k := by
          rcases Nat.lt_or_ge k fs.size with h | h
          · simp [h] at hk
          · exact h
        simp [this, hge]
      | some f =>
        have hk' : fs.toList[k]? = some f := by rw [Array.getElem?_toList]; exact hk
        obtain ⟨y, h1, h2⟩ := mapM_get hp hk'
        simp only [List.getElem?_toArray, h1, szOf]
        cases hii : P.info? f.type with
        | none => simp [hii] at h2
        | some ii => simp [hii] at h2; subst h2; simp
    rw [hpl]; exact hf
  | array n e =>
    have hie : ∃ ie, P.info? e = some ie := by
      unfold zerosOf at h20
      simp only [hu] at h20
      cases hm : zerosOf P 19 e with
      | none => simp [hm] at h20
      | some l => exact info_of_zeros hm
    obtain ⟨ie, hie⟩ := hie
    unfold Program.built
    simp only [hi, hu, hv, hie]
    have hpl : (fun x => some (x * ie.size, ie.size)) = partOf P t := by
      funext k
      simp [partOf, hu, szOf, hie]
    rw [hpl]; exact hf
  | _ => simp [TypeDesc.isRow] at hd

theorem sim_bd {d t : Nat} {z : List Val} {ps : Array (Nat × Operand)} {qs : List (Nat × Nat × O)} (p : Pre n0 gl nt w G ρ lam a st) (hod : o.dst = some d) (hdt : d < nt) (hop : o.op = .build t ps) (hz : zeros P t = some z)
    (hst : ∃ d, P.underlying t = some d ∧ d.isRow = true)
    (hq : All2 (fun (q : Nat × Operand) (r : Nat × Nat × O) => partOf P t q.1 = some (r.1, r.2.1) ∧ ∃ t, opd P t q.2 = some r.2.2) ps.toList qs)
    (hs : step (AP P gl) gl (.bd d z qs) st K) : o.wp P a w (After n0 gl nt w G ρ K) Q := by
  obtain ⟨i, v, h1, h2, h3, h4, h5⟩ := zeros_spec hz
  simp only [step] at hs
  split at hs
  · rename_i cs hf
    obtain ⟨vs', e1, e2⟩ := fill_run p hq h5 hf
    have hb : P.built t (ps.map fun q => (q.1, a.eval q.2)).toList = some ⟨vs'⟩ := by
      refine built_fill hz h1 h2 ?_ hst
      rw [Array.toList_map]
      exact e1
    refine p.value hod hdt (v := .agg ⟨vs'⟩) ?_ (.of_A (.agg _ _ e2)) hs
    simp only [execOp, hop, Sem.run_bind, run_build w t _ _ hb, Result.andThen_ok, Sem.run_pure]
  · exact hs.elim

/-! ### Function values -/

theorem args_rel {xs : List Operand} {ys : List O} (p : Pre n0 gl nt w G ρ lam a st) (h : All2 (fun x y => ∃ t, opd P t x = some y) xs ys) (hn : (ys.map fun x => frz (snap (ev gl st x))).all (noL depth) = true) :
    RelL w G ρ (xs.map a.eval) (ys.map fun x => frz (snap (ev gl st x))) := by
  induction h with
  | nil => exact .nil
  | @cons x y xs ys hx _ ih =>
    obtain ⟨t, hx⟩ := hx
    simp only [List.map_cons, List.all_cons, Bool.and_eq_true] at hn ⊢
    refine .cons _ _ _ _ ?_ (ih hn.2)
    have hT := (ev_snap (L := .res) hx p.rel).frz (L' := .res)
    rcases hT.cases with h | ⟨t', o', b, e, _, _⟩
    · rcases h.cases with h | ⟨sz, d, l, e, _⟩
      · exact h
      · exfalso
        cases hv : ev gl st y <;> rw [hv] at e <;> simp [snap, frz] at e
        rename_i cs2
        cases hfl : frzL cs2 <;> simp [hfl] at e
    · rw [e] at hn; simp [noL] at hn

theorem sim_mf {d f : Nat} {xs cs : Array Operand} {ys zs : List O} (p : Pre n0 gl nt w G ρ lam a st) (hod : o.dst = some d) (hdt : d < nt) (hop : o.op = .makeFunc (.func f) xs cs)
    (hx : All2 (fun x y => ∃ t, opd P t x = some y) xs.toList ys) (hc : All2 (fun x y => ∃ t, opd P t x = some y) cs.toList zs)
    (hs : step (AP P gl) gl (.mf d f ys zs) st K) : o.wp P a w (After n0 gl nt w G ρ K) Q := by
  have hr : (execOp a.eval o).run P w = .ok (.value (.func (.func f) (xs.map a.eval) (cs.map a.eval))) w := by
    simp only [execOp, hop, Instr.makeFunc]; rfl
  simp only [step] at hs
  split at hs
  · have e1 : xs = #[] := by cases hl : xs.toList with | nil => exact Array.ext' hl | cons q qs => rw [hl] at hx; cases hx
    have e2 : cs = #[] := by cases hl : cs.toList with | nil => exact Array.ext' hl | cons q qs => rw [hl] at hc; cases hc
    rw [e1, e2, Array.map_empty] at hr
    exact p.value hod hdt hr (.of_A (.d _ _ (.fn f))) hs
  · obtain ⟨hg, hs⟩ := hs
    simp only [Bool.and_eq_true] at hg
    refine p.value hod hdt hr (.of_A ?_) hs
    have h1 := args_rel p hx hg.1
    have h2 := args_rel p hc hg.2
    have e1 : xs.map a.eval = ⟨xs.toList.map a.eval⟩ := by apply Array.ext'; simp
    have e2 : cs.map a.eval = ⟨cs.toList.map a.eval⟩ := by apply Array.ext'; simp
    rw [e1, e2]
    exact .func _ _ _ _ _ h1 h2

/-! ### Tests against nil -/

theorem sim_nq {d : Nat} {x z : Operand} {x' : O} {t u t1 kd : Nat} {neg : Bool} {desc : TypeDesc} (p : Pre n0 gl nt w G ρ lam a st) (hod : o.dst = some d) (hdt : d < nt)
    (hop : o.op = .binOp (if neg then .neq else .eql) t x z u) (hx : opd P t1 x = some x') (hu : P.underlying t = some desc) (hk : nilKind desc z = some kd)
    (hs : step (AP P gl) gl (.nq d neg kd x') st K) : o.wp P a w (After n0 gl nt w G ρ K) Q := by
  obtain ⟨L1, h1⟩ := ev_any hx p.rel
  have fin : ∀ (b : Bool) (zv : Value), a.eval z = zv → (zv = .slice none 0 0 ∨ zv = .map none ∨ zv = .nilFunc ∨ zv = .pointer none) → (Op.equal t (a.eval x) zv).run P w = .ok b w → (a.eval x).oneCell' = true → a.eval x ≠ .nilIface → (∀ k n, a.eval x ≠ .int k n) → (∀ s, a.eval x ≠ .string s) →
      K (st.set d (.d (.bool (cond neg (!b) b)))) → o.wp P a w (After n0 gl nt w G ρ K) Q := by
    intro b zv hzv hz hb h2 h3 h4 h5 hK
    refine p.value hod hdt (v := .bool (cond neg (!b) b)) ?_ (.of_A (.d _ _ (.bool _))) hK
    have hg := eqGuard_scalar (P := P) (w := w) (op := if neg then .neq else .eql) (t := t) (x := x) (y := z) (v := zv) h2 h3
    have key : binOp .eql t (a.eval x) zv = (Op.equal t (a.eval x) zv >>= fun b => pure (.bool b)) ∧ binOp .neq t (a.eval x) zv = (Op.equal t (a.eval x) zv >>= fun b => pure (.bool (!b))) := by
      rcases hz with rfl | rfl | rfl | rfl <;> (cases hv : a.eval x with
        | int k n => exact absurd hv (h4 k n)
        | string s => exact absurd hv (h5 s)
        | _ => exact ⟨rfl, rfl⟩)
    cases neg
    · simp only [Bool.false_eq_true, if_false] at hop hg
      simp only [execOp, hop, hzv, Sem.run_bind, hg, Result.andThen_ok, key.1, hb, Sem.run_pure, cond_false]
    · simp only [if_true] at hop hg
      simp only [execOp, hop, hzv, Sem.run_bind, hg, Result.andThen_ok, key.2, hb, Sem.run_pure, cond_true]
  have hK0 : ∀ {q : Prop}, (cond neg (!false) false = neg) := fun {_} => by cases neg <;> rfl
  have hK1 : ∀ {q : Prop}, (cond neg (!true) true = !neg) := fun {_} => by cases neg <;> rfl
  unfold nilKind at hk
  split at hk
  · -- slices
    simp only [Option.some.injEq] at hk
    subst hk
    simp only [step] at hs
    have heq : ∀ (ad : Option Addr) (n c : Nat), (Op.equal t (.slice ad n c) (.slice none 0 0)).run P w = .ok ad.isNone w := by
      intro ad n c
      have : ∀ k, (Op.equalIn (k + 1) t (.slice ad n c) (.slice none 0 0)).run P w = .ok ad.isNone w := fun k => by
        cases ad <;> simp [Op.equalIn, underlying_run hu]
      exact this 9999
    split at hs
    · rename_i sz q qs e1
      obtain ⟨ad, cap, v1, _, hrest⟩ := (h1.listS e1).slice
      obtain ⟨b, off, vs, rfl, _⟩ := hrest (by simp)
      exact fin false _ rfl (.inl rfl) (by rw [v1]; exact heq _ _ _) (by rw [v1]; rfl) (by rw [v1]; simp) (by rw [v1]; simp) (by rw [v1]; simp) (by rw [hK0 (q := True)]; exact hs)
    · rename_i sz e1
      obtain ⟨ad, cap, v1, _, hrest⟩ := (h1.listS e1).slice
      cases hn : ad.isNone with
      | true => exact fin true _ rfl (.inl rfl) (by rw [v1, ← hn]; exact heq _ _ _) (by rw [v1]; rfl) (by rw [v1]; simp) (by rw [v1]; simp) (by rw [v1]; simp) (by rw [hK1 (q := True)]; exact hs.2)
      | false => exact fin false _ rfl (.inl rfl) (by rw [v1, ← hn]; exact heq _ _ _) (by rw [v1]; rfl) (by rw [v1]; simp) (by rw [v1]; simp) (by rw [v1]; simp) (by rw [hK0 (q := True)]; exact hs.1)
    · exact hs.elim
  · simp only [Option.some.injEq] at hk
    subst hk
    simp only [step] at hs
    have heq : ∀ (r : Option Nat), (Op.equal t (.map r) (.map none)).run P w = .ok r.isNone w := by
      intro r
      have : ∀ k, (Op.equalIn (k + 1) t (.map r) (.map none)).run P w = .ok r.isNone w := fun k => by
        cases r <;> simp [Op.equalIn, underlying_run hu]
      exact this 9999
    split at hs
    · rename_i i e1
      rw [e1] at h1
      have h1' : RelA w G ρ (a.eval x) (.map i) := h1
      cases hv1 : a.eval x <;> rw [hv1] at h1' <;> cases h1'
      exact fin false _ rfl (.inr (.inl rfl)) (by rw [hv1]; exact heq _) (by rw [hv1]; rfl) (by rw [hv1]; simp) (by rw [hv1]; simp) (by rw [hv1]; simp) (by rw [hK0 (q := True)]; exact hs)
    · rename_i e1
      rw [e1] at h1
      have h1' := h1.dat
      cases hv1 : a.eval x <;> rw [hv1] at h1' <;> cases h1'
      exact fin true _ rfl (.inr (.inl rfl)) (by rw [hv1]; exact heq _) (by rw [hv1]; rfl) (by rw [hv1]; simp) (by rw [hv1]; simp) (by rw [hv1]; simp) (by rw [hK1 (q := True)]; exact hs)
    · exact hs.elim
  · simp only [Option.some.injEq] at hk
    subst hk
    simp only [step] at hs
    have heq : ∀ (fn : Fn) (b c : Array Value), (Op.equal t (.func fn b c) .nilFunc).run P w = .ok false w := by
      intro fn b c
      have : ∀ k, (Op.equalIn (k + 1) t (.func fn b c) .nilFunc).run P w = .ok false w := fun k => by
        simp [Op.equalIn, underlying_run hu]
      exact this 9999
    have heq' : (Op.equal t .nilFunc .nilFunc).run P w = .ok true w := by
      have : ∀ k, (Op.equalIn (k + 1) t .nilFunc .nilFunc).run P w = .ok true w := fun k => by
        simp [Op.equalIn, underlying_run hu]
      exact this 9999
    split at hs
    · rename_i f as cs e1
      rw [e1] at h1
      have h1' : RelA w G ρ (a.eval x) (.func f as cs) := h1
      cases hv1 : a.eval x <;> rw [hv1] at h1' <;> cases h1'
      exact fin false _ rfl (.inr (.inr (.inl rfl))) (by rw [hv1]; exact heq _ _ _) (by rw [hv1]; rfl) (by rw [hv1]; simp) (by rw [hv1]; simp) (by rw [hv1]; simp) (by rw [hK0 (q := True)]; exact hs)
    · rename_i f e1
      rw [e1] at h1
      have h1' := h1.dat
      cases hv1 : a.eval x <;> rw [hv1] at h1' <;> cases h1'
      exact fin false _ rfl (.inr (.inr (.inl rfl))) (by rw [hv1]; exact heq _ _ _) (by rw [hv1]; rfl) (by rw [hv1]; simp) (by rw [hv1]; simp) (by rw [hv1]; simp) (by rw [hK0 (q := True)]; exact hs)
    · rename_i e1
      rw [e1] at h1
      have h1' := h1.dat
      cases hv1 : a.eval x <;> rw [hv1] at h1' <;> cases h1'
      exact fin true _ rfl (.inr (.inr (.inl rfl))) (by rw [hv1]; exact heq') (by rw [hv1]; rfl) (by rw [hv1]; simp) (by rw [hv1]; simp) (by rw [hv1]; simp) (by rw [hK1 (q := True)]; exact hs)
    · exact hs.elim
  · simp only [Option.some.injEq] at hk
    subst hk
    simp only [step] at hs
    have heq : ∀ (r : Option Addr), (Op.equal t (.pointer r) (.pointer none)).run P w = .ok r.isNone w := by
      intro r
      have : ∀ k, (Op.equalIn (k + 1) t (.pointer r) (.pointer none)).run P w = .ok r.isNone w := fun k => by
        cases r <;> simp [Op.equalIn, underlying_run hu]
      exact this 9999
    split at hs
    · rename_i i off e1
      rw [e1] at h1
      have h1' : RelA w G ρ (a.eval x) (.ptr i off) := h1
      cases hv1 : a.eval x <;> rw [hv1] at h1' <;> cases h1'
      exact fin false _ rfl (.inr (.inr (.inr rfl))) (by rw [hv1]; exact heq _) (by rw [hv1]; rfl) (by rw [hv1]; simp) (by rw [hv1]; simp) (by rw [hv1]; simp) (by rw [hK0 (q := True)]; exact hs)
    · rename_i cs off e1
      rw [e1] at h1
      have h1' := h1.dat
      cases hv1 : a.eval x <;> rw [hv1] at h1' <;> cases h1'
      exact fin false _ rfl (.inr (.inr (.inr rfl))) (by rw [hv1]; exact heq _) (by rw [hv1]; rfl) (by rw [hv1]; simp) (by rw [hv1]; simp) (by rw [hv1]; simp) (by rw [hK0 (q := True)]; exact hs)
    · rename_i e1
      rw [e1] at h1
      have h1' := h1.dat
      cases hv1 : a.eval x <;> rw [hv1] at h1' <;> cases h1'
      exact fin true _ rfl (.inr (.inr (.inr rfl))) (by rw [hv1]; exact heq _) (by rw [hv1]; rfl) (by rw [hv1]; simp) (by rw [hv1]; simp) (by rw [hv1]; simp) (by rw [hK1 (q := True)]; exact hs)
    · exact hs.elim
  · simp at hk

end
end Go.Vm
end

section
/- Slices that are made and appended to. Conditions: none. -/
namespace Go.Vm

section
variable {P : Program} {gl : Nat → List D} {n0 nt : Nat} {a : Act} {w w' : World} {G G' : Gh} {ρ ρ' : List Nat} {lam lam' : Nat → Option Nat} {st st' : St} {K : St → Prop} {o : Oper} {Q : Exit → Act → World → Prop}

theorem Rd.cellsL {v : Value} {d : D} (h : Rd w G v d) : RdL w G v.cells.toList d.cells := by
  cases h with
  | agg vs cs h => exact h
  | bool b => exact .cons _ _ _ _ (.bool b) .nil
  | int k n => exact .cons _ _ _ _ (.int k n) .nil
  | str s l h => exact .cons _ _ _ _ (.str s l h) .nil
  | nilp => exact .cons _ _ _ _ .nilp .nil
  | nilm => exact .cons _ _ _ _ .nilm .nil
  | nilf => exact .cons _ _ _ _ .nilf .nil
  | nili => exact .cons _ _ _ _ .nili .nil
  | fn f => exact .cons _ _ _ _ (.fn f) .nil
  | iface t v x h => exact .cons _ _ _ _ (.iface t v x h) .nil
  | list0 a c s => exact .cons _ _ _ _ (.list0 a c s) .nil
  | list b off n cap sz l vs h1 h2 h3 h4 h5 => exact .cons _ _ _ _ (.list b off n cap sz l vs h1 h2 h3 h4 h5) .nil
  | iptr b base off vs cs h1 h2 => exact .cons _ _ _ _ (.iptr b base off vs cs h1 h2) .nil

/-- Cells in a block that nobody but its owner may write behind 'm'. -/
theorem new_cells {vs us : List Value} {E : TypeId} {fz : Nat × Nat} {L0 : Loc} {m : Nat} (hw : Grew w (.cells ⟨vs ++ us⟩ E fz) w') (hm : vs.length = m) (h1 : ∀ v, v ∈ vs → v.oneCell' = true) : CellsAt w' (newG w G L0 m) w.heap.size 0 vs := by
  intro j v hv
  have hj : j < vs.length := by
    rcases Nat.lt_or_ge j vs.length with h | h
    · exact h
    · rw [List.getElem?_eq_none h] at hv; simp at hv
  refine ⟨?_, ?_, h1 v (List.mem_of_getElem? hv)⟩
  · rw [Nat.zero_add, cell_of_block hw.new]
    rw [List.getElem?_toArray, List.getElem?_append_left hj]; exact hv
  · intro L n hG
    rw [newG, upd_self] at hG
    simp only [Option.some.injEq, Prod.mk.injEq] at hG
    omega

/-- A new slice that a slot holds. -/
theorem new_own {sz d : Nat} {l : List D} {vs us : List Value} {E : TypeId} {fz : Nat × Nat} {cap : Nat} (hw : Grew w (.cells ⟨vs ++ us⟩ E fz) w') (hsz : 0 < sz) (hl : ∀ x, x ∈ l → x.cells.length = sz) (hne : l ≠ [])
    (hr : RdL w G vs (l.flatMap D.cells)) (hcap : l.length ≤ cap) (hc : (vs ++ us).length = cap * sz) (hfz : ∀ j, j < (vs ++ us).length → ¬ (fz.1 ≤ j ∧ j < fz.2)) (h1 : ∀ v, v ∈ vs → v.oneCell' = true) :
    RelV w' (newG w G (.slot d) (l.length * sz)) ρ (.slot d) (.slice (some ⟨w.heap.size, 0, none⟩) l.length cap) (.own sz l) := by
  obtain ⟨x, l, rfl⟩ := List.exists_cons_of_ne_nil hne
  have hlen : vs.length = (x :: l).length * sz := by rw [hr.length]; exact flatMap_len hl
  exact ⟨w.heap.size, 0, cap, ⟨vs ++ us⟩, E, fz, vs, rfl, hcap, hw.new, hfz, by rw [Nat.zero_add]; show cap * sz ≤ (vs ++ us).length; omega, hsz, by rw [newG, upd_self, Nat.zero_add], hl, new_cells hw hlen h1, hr.keep hw.keeps⟩

theorem Rd.oneCell {v : Value} {d : D} (h : Rd w G v d) (h1 : oneD d = true) : v.oneCell' = true := by
  cases h <;> first | rfl | simp [oneD] at h1

theorem one_of_rd {vs : List Value} {l : List D} (h : RdL w G vs (l.flatMap D.cells)) (h1 : ∀ d, d ∈ l → d.cells.all oneD = true) : ∀ v, v ∈ vs → v.oneCell' = true := by
  intro v hv
  obtain ⟨j, hj, rfl⟩ := List.getElem_of_mem hv
  have hj' : j < (l.flatMap D.cells).length := by rw [← h.length]; exact hj
  have hr := h.get (List.getElem?_eq_getElem hj) (List.getElem?_eq_getElem hj')
  have hm := List.getElem_mem hj'
  obtain ⟨d, hd, hm⟩ := List.mem_flatMap.1 hm
  exact hr.oneCell ((List.all_eq_true.1 (h1 d hd)) _ hm)

theorem after_new {L0 : Loc} {m d : Nat} {ob : Obj} {v : Value} {x : Val} {st1 : St} (p : Pre n0 gl nt w G ρ lam a st) (hrel : RelS gl w G ρ lam a.tmps st1) (hw : Grew w ob w') (h0 : L0 ≠ .foreign) (hod : o.dst = some d) (hdt : d < nt)
    (hv : RelT w' (newG w G L0 m) ρ lam (.slot d) v x) (hK : K (st1.set d x)) : After n0 gl nt w G ρ K (a.put o.dst v) w' :=
  after_set (hw.rel (L0 := L0) (n0 := m) p.rel.lt hrel) p.df p.sz hdt (hw.good p.rel.lt h0) (fun _ _ h => h) hod hv hK

/-! ### Literals of slices -/

theorem elems_rel {sz : Nat} (p : Pre n0 gl nt w G ρ lam a st) : ∀ {xs : List Operand} {ys : List O} {l : List D}, All2 (fun x y => ∃ t, opd P t x = some y) xs ys → elems gl st sz ys = some l →
    l.length = xs.length ∧ (∀ x, x ∈ l → x.cells.length = sz) ∧ RdL w G (xs.flatMap fun x => (a.eval x).cells.toList) (l.flatMap D.cells) ∧ (∀ x, x ∈ xs → (a.eval x).cells.size = sz) ∧ (∀ d, d ∈ l → d.cells.all oneD = true)
  | [], _, l, h, he => by
    cases h
    simp only [elems, Option.some.injEq] at he
    subst he
    exact ⟨rfl, by simp, .nil, by simp, by simp⟩
  | x :: xs, _, l, h, he => by
    cases h with
    | cons hx h =>
      rename_i y ys
      obtain ⟨t, hx⟩ := hx
      simp only [elems] at he
      cases h1 : toD (ev gl st y) with
      | none => simp [h1] at he
      | some d =>
        cases h2 : elems gl st sz ys with
        | none => simp [h1, h2] at he
        | some l' =>
          simp only [h1, h2] at he
          cases h30 : (Nat.beq d.cells.length sz && d.cells.all oneD) with
          | false => simp [h30] at he
          | true =>
            simp only [h30, cond_true, Option.some.injEq] at he
            subst he
            simp only [Bool.and_eq_true] at h30
            have h3 := Nat.eq_of_beq_eq_true h30.1
            obtain ⟨L, hT⟩ := ev_any hx p.rel
            have hrd := (hT.toD h1).cellsL
            obtain ⟨e1, e2, e3, e4, e5⟩ := elems_rel p h h2
            refine ⟨by simp [e1], ?_, ?_, ?_, ?_⟩
            · intro z hz
              simp only [List.mem_cons] at hz
              rcases hz with rfl | hz
              · exact h3
              · exact e2 z hz
            · simp only [List.flatMap_cons]
              exact hrd.append e3
            · intro z hz
              simp only [List.mem_cons] at hz
              rcases hz with rfl | hz
              · rw [← Array.length_toList, hrd.length, h3]
              · exact e4 z hz
            · intro z hz
              simp only [List.mem_cons] at hz
              rcases hz with rfl | hz
              · exact h30.2
              · exact e5 z hz

/-- The cells of a literal, element by element. -/
theorem fill_all {sz : Nat} : ∀ (vs : List Value) (i : Nat) (pre rest : List Value), pre.length = i * sz → rest.length = vs.length * sz → (∀ v, v ∈ vs → v.cells.size = sz) →
    Instr.fill (fun i => some (i * sz, sz)) ⟨pre ++ rest⟩ ((List.range' i vs.length).zip vs) = some ⟨pre ++ vs.flatMap fun v => v.cells.toList⟩
  | [], i, pre, rest, _, hr, _ => by
    have : rest = [] := by simpa using hr
    subst this
    rfl
  | v :: vs, i, pre, rest, hp, hr, hs => by
    have hv := hs v (by simp)
    simp only [List.length_cons, List.range'_succ, List.zip_cons_cons, Instr.fill]
    have hrl : sz ≤ rest.length := by rw [hr, List.length_cons, Nat.add_mul]; omega
    have hcond : (v.cells.size ≠ sz || i * sz + v.cells.size > (⟨pre ++ rest⟩ : Array Value).size) = false := by
      simp [hv, hp]; omega
    rw [if_neg (by rw [hcond]; simp)]
    have hput : v.cells.zipIdx.foldl (fun (cs : Array Value) (p : Value × Nat) => cs.setIfInBounds (i * sz + p.2) p.1) ⟨pre ++ rest⟩ = ⟨(pre ++ v.cells.toList) ++ rest.drop sz⟩ := by
      have key : ∀ (us : List Value) (k : Nat) (q r : List Value), q.length = i * sz + k → us.length ≤ r.length →
          ((us.zipIdx k).foldl (fun (cs : Array Value) (p : Value × Nat) => cs.setIfInBounds (i * sz + p.2) p.1) ⟨q ++ r⟩) = ⟨(q ++ us) ++ r.drop us.length⟩ := by
        intro us
        induction us with
        | nil => intro k q r _ _; simp
        | cons u us ih =>
          intro k q r hq hl
          cases r with
          | nil => simp at hl
          | cons y r =>
            simp only [List.zipIdx_cons, List.foldl_cons]
            have h1 : (⟨q ++ y :: r⟩ : Array Value).setIfInBounds (i * sz + k) u = ⟨(q ++ [u]) ++ r⟩ := by
              apply Array.ext'
              simp only [Array.toList_setIfInBounds]
              rw [List.set_append_right _ _ (by omega), hq]
              simp
            rw [h1, ih (k + 1) (q ++ [u]) r (by simp [hq]; omega) (by simpa using hl)]
            simp
      have := key v.cells.toList 0 pre rest (by simpa using hp) (by rw [Array.length_toList, hv]; exact hrl)
      rw [Array.length_toList, hv] at this
      rw [← this, ← Array.foldl_toList, Array.toList_zipIdx]
    rw [hput]
    have := fill_all vs (i + 1) (pre ++ v.cells.toList) (rest.drop sz) (by simp [hp, hv, Nat.add_mul]) (by rw [List.length_drop, hr, List.length_cons, Nat.add_mul]; omega) (fun u hu => hs u (by simp [hu]))
    rw [this]
    simp

theorem sim_li {d t e n len : Nat} {ps : Array (Nat × Operand)} {ys : List O} {z : List Val} (p : Pre n0 gl nt w G ρ lam a st) (hod : o.dst = some d) (hdt : d < nt) (hop : o.op = .buildSlice t len ps)
    (hu : P.underlying t = some (.slice e)) (hn : szOf P e = some n) (hpos : 0 < n) (hz : zeros P e = some z) (hidx : ps.toList.map (·.1) = List.range len) (hbig : len * n ≤ 2 ^ 24)
    (hq : All2 (fun x y => ∃ t, opd P t x = some y) (ps.toList.map (·.2)) ys)
    (hs : step (AP P gl) gl (.li d n ys) st K) : o.wp P a w (After n0 gl nt w G ρ K) Q := by
  obtain ⟨i, zv, h1, h2, h3, h4, h5⟩ := zeros_spec hz
  have hin : i.size = n := by unfold szOf at hn; rw [h1] at hn; simpa using hn
  have hzs : zv.cells.size = n := by omega
  simp only [step] at hs
  split at hs
  · rename_i l hl
    obtain ⟨e1, e2, e3, e4, e5⟩ := elems_rel p hq hl
    have hlen : ps.toList.length = len := by have := congrArg List.length hidx; simpa using this
    have hll : l.length = len := by rw [e1, List.length_map, hlen]
    have hparts : ps.map (fun x => (x.1, a.eval x.2)) = ⟨(List.range' 0 (ps.toList.map fun x => a.eval x.2).length).zip (ps.toList.map fun x => a.eval x.2)⟩ := by
      apply Array.ext'
      rw [Array.toList_map]
      simp only [List.length_map, hlen]
      rw [← List.range_eq_range', ← hidx]
      generalize ps.toList = q
      induction q with
      | nil => rfl
      | cons y ys ih => simp [ih]
    have hfl : ∀ c0 : Array Value, c0.size = len * n → Instr.fill (fun i => some (i * n, n)) c0 (ps.map (fun x => (x.1, a.eval x.2))).toList = some ⟨(ps.toList.map fun x => a.eval x.2).flatMap fun v => v.cells.toList⟩ := by
      intro c0 hc0s
      rw [hparts]
      have := fill_all (sz := n) (ps.toList.map fun x => a.eval x.2) 0 [] c0.toList (by simp) (by simp [hc0s, hlen]) (fun v hv => by
        simp only [List.mem_map] at hv
        obtain ⟨x, hx, rfl⟩ := hv
        exact e4 x.2 (List.mem_map.2 ⟨x, hx, rfl⟩))
      simpa using this
    have hfm : ((ps.toList.map fun x => a.eval x.2).flatMap fun v => v.cells.toList) = (ps.toList.map (·.2)).flatMap fun x => (a.eval x).cells.toList := by
      generalize ps.toList = q
      induction q with
      | nil => rfl
      | cons y ys ih => simp [ih]
    rw [hfm] at hfl
    have hrun : (Instr.buildSlice t len (ps.map fun x => (x.1, a.eval x.2))).run P w = .ok (.slice (some ⟨w.heap.size, 0, none⟩) len len) { w with heap := w.heap.push (.cells ⟨(ps.toList.map (·.2)).flatMap fun x => (a.eval x).cells.toList⟩ e) } := by
      have hnb : ¬ len * n > 2 ^ 24 := by omega
      unfold Instr.buildSlice
      simp only [Sem.run_bind, underlying_run hu, Result.andThen_ok, szOf_run hn, Sem.run_ite, if_neg hnb, Sem.run_pure]
      by_cases h0 : len * n = 0
      · simp only [if_pos h0]
        rw [hfl _ (by simp)]
        simp only [newRow, Sem.run_bind, run_newObj, Result.andThen_ok, Sem.run_pure]
      · simp only [if_neg h0, zeroValue_run h1 h2, Result.andThen_ok]
        rw [hfl _ (by simp)]
        simp only [newRow, Sem.run_bind, run_newObj, Result.andThen_ok, Sem.run_pure]
    have hexec : (execOp a.eval o).run P w = .ok (.value (.slice (some ⟨w.heap.size, 0, none⟩) len len)) { w with heap := w.heap.push (.cells ⟨(ps.toList.map (·.2)).flatMap fun x => (a.eval x).cells.toList⟩ e) } := by
      simp only [execOp, hop, Sem.run_bind, hrun, Result.andThen_ok, Sem.run_pure]
    have hvl : ((ps.toList.map (·.2)).flatMap fun x => (a.eval x).cells.toList).length = len * n := by rw [e3.length, flatMap_len e2, hll]
    have hw : Grew w (.cells ⟨((ps.toList.map (·.2)).flatMap fun x => (a.eval x).cells.toList) ++ []⟩ e) { w with heap := w.heap.push (.cells ⟨(ps.toList.map (·.2)).flatMap fun x => (a.eval x).cells.toList⟩ e) } := ⟨by simp, rfl, rfl⟩
    refine wp_value hexec (after_new (L0 := .slot d) (m := l.length * n) p p.rel hw (by simp) hod hdt (.of_V ?_) hs)
    by_cases hne : l = []
    · subst hne
      simp only [List.length_nil] at hll
      subst hll
      exact .of_A (.nil _ _)
    · have := new_own (ρ := ρ) (d := d) (cap := len) hw hpos e2 hne e3 (by omega) (by simp only [List.append_nil]; exact hvl) (by simp) (one_of_rd e3 e5)
      rw [hll] at this ⊢
      exact this
  · exact hs.elim

end
end Go.Vm
end

section
/- append. Conditions: none. -/
namespace Go.Vm

section
variable {P : Program} {gl : Nat → List D} {n0 nt : Nat} {a : Act} {w w' : World} {G G' : Gh} {ρ ρ' : List Nat} {lam lam' : Nat → Option Nat} {st st' : St} {K : St → Prop} {o : Oper} {Q : Exit → Act → World → Prop}

/-- What lies behind a slice's end is written. -/
theorem own_write {b m : Nat} : ∀ {us : List Value} {k : Nat} {w : World} {c : Array Value} {E : TypeId} {fz : Nat × Nat}, w.heap[b]? = some (.cells c E fz) → m + k + us.length ≤ c.size →
    ∃ c', (w.setCells b (m + k) us).heap[b]? = some (.cells c' E fz) ∧ c'.size = c.size ∧ (∀ j, j < m + k ∨ m + k + us.length ≤ j → c'[j]? = c[j]?) ∧ (∀ j v, us[j]? = some v → c'[m + k + j]? = some v) ∧
      (∀ b', b' ≠ b → (w.setCells b (m + k) us).heap[b']? = w.heap[b']?) ∧ (w.setCells b (m + k) us).heap.size = w.heap.size
  | [], k, w, c, E, fz, h, hl => ⟨c, h, rfl, fun _ _ => rfl, fun j v hv => by simp at hv, fun _ _ => rfl, rfl⟩
  | u :: us, k, w, c, E, fz, h, hl => by
    simp only [List.length_cons] at hl
    have h1 := setCell_at (off := m + k) (u := u) h
    obtain ⟨c', e1, e2, e3, e4, e5, e6⟩ := own_write (b := b) (m := m) (us := us) (k := k + 1) h1 (by simp; omega)
    refine ⟨c', e1, by simpa using e2, ?_, ?_, ?_, ?_⟩
    · intro j hj
      simp only [List.length_cons] at hj
      rw [e3 j (by omega), Array.getElem?_setIfInBounds_ne (by omega)]
    · intro j v hv
      cases j with
      | zero =>
        simp only [List.getElem?_cons_zero, Option.some.injEq] at hv
        subst hv
        rw [e3 (m + k + 0) (by omega), Nat.add_zero, Array.getElem?_setIfInBounds]
        have : m + k < c.size := by omega
        simp [this]
      | succ j =>
        simp only [List.getElem?_cons_succ] at hv
        have := e4 j v hv
        rw [show m + (k + 1) + j = m + k + (j + 1) by omega] at this
        exact this
    · intro b' hb'
      have := e5 b' hb'
      exact this.trans (setCell_old hb')
    · have := e6
      exact this.trans setCell_size

theorem setCells_env {b : Nat} : ∀ {us : List Value} {k : Nat} {w : World}, (w.setCells b k us).os = w.os ∧ (w.setCells b k us).output = w.output
  | [], _, _ => ⟨rfl, rfl⟩
  | u :: us, k, w => by
    have h := setCells_env (b := b) (us := us) (k := k + 1) (w := w.setCell ⟨b, k, none⟩ u)
    exact ⟨h.1.trans rfl, h.2.trans rfl⟩

/-- Where the world's heap is as it was but for cells behind the limit of one owner's block. -/
theorem ext_facts {b m m' : Nat} {L L' : Loc} {c c' : Array Value} {E : TypeId} {fz : Nat × Nat} (hG : G b = some (L, m)) (hm : m ≤ m') (hold : w.heap[b]? = some (.cells c E fz)) (hnew : w'.heap[b]? = some (.cells c' E fz))
    (hkeep : ∀ j, j < m → c'[j]? = c[j]?) (hoth : ∀ b', b' ≠ b → w'.heap[b']? = w.heap[b']?) (hsize : w'.heap.size = w.heap.size) (hlt : ∀ b L n, G b = some (L, n) → b < w.heap.size) (hL : L ≠ .foreign) (hL' : L' ≠ .foreign) (hos : w'.os = w.os) (hout : w'.output = w.output) :
    Keeps w G w' (upd G b (some (L', m'))) ∧ (∀ L1, L1 ≠ L → SameL L1 L1 w G w' (upd G b (some (L', m')))) ∧ Good w G w' (upd G b (some (L', m'))) ∧ (∀ b3 L n, upd G b (some (L', m')) b3 = some (L, n) → b3 < w'.heap.size) := by
  have hk : Keeps w G w' (upd G b (some (L', m'))) := by
    intro b2 off v h
    by_cases hb : b2 = b
    · subst hb
      have hoff := h.2.1 _ _ hG
      refine ⟨?_, ?_, h.2.2⟩
      · rw [cell_of_block hnew, hkeep _ hoff, ← cell_of_block hold]; exact h.1
      · intro L2 n2 h2
        rw [upd_self] at h2
        simp only [Option.some.injEq, Prod.mk.injEq] at h2
        omega
    · refine ⟨by rw [cell_congr (hoth _ hb)]; exact h.1, ?_, h.2.2⟩
      intro L2 n2 h2
      rw [upd_ne _ _ hb] at h2
      exact h.2.1 _ _ h2
  have hs : ∀ L1, L1 ≠ L → SameL L1 L1 w G w' (upd G b (some (L', m'))) := by
    intro L1 h1 b2 n h2
    have hb : b2 ≠ b := by rintro rfl; rw [hG] at h2; simp only [Option.some.injEq, Prod.mk.injEq] at h2; exact h1 h2.1.symm
    exact ⟨hoth _ hb, by rw [upd_ne _ _ hb]; exact h2⟩
  refine ⟨hk, hs, ⟨by rw [hsize]; exact Nat.le_refl _, ?_, ?_, ?_, hk, hos, hout⟩, ?_⟩
  · intro b2 hb2 h2
    have hb : b2 ≠ b := by
      rintro rfl
      rcases h2 with h2 | ⟨n, h2⟩
      · rw [hG] at h2; simp at h2
      · rw [hG] at h2; simp only [Option.some.injEq, Prod.mk.injEq] at h2; exact hL h2.1
    exact ⟨hoth _ hb, upd_ne _ _ hb⟩
  · intro b2 n hb2 h2
    by_cases hb : b2 = b
    · subst hb; exact absurd (hlt _ _ _ hG) (Nat.not_lt.2 hb2)
    · rw [upd_ne _ _ hb] at h2; exact absurd (hlt _ _ _ h2) (Nat.not_lt.2 hb2)
  · intro b2 n hb2 h2
    by_cases hb : b2 = b
    · subst hb; rw [upd_self] at h2; simp only [Option.some.injEq, Prod.mk.injEq] at h2; exact absurd h2.1 hL'
    · rwa [upd_ne _ _ hb] at h2
  · intro b2 L2 n h2
    rw [hsize]
    by_cases hb : b2 = b
    · subst hb; exact hlt _ _ _ hG
    · rw [upd_ne _ _ hb] at h2; exact hlt _ _ _ h2

theorem CellsAt.one {b off : Nat} {vs : List Value} (h : CellsAt w G b off vs) : ∀ u, u ∈ vs → u.oneCell' = true := by
  intro u hu
  obtain ⟨j, hj, rfl⟩ := List.getElem_of_mem hu
  exact (h j _ (List.getElem?_eq_getElem hj)).2.2

theorem growBy_le (n : Nat) : ∀ (r c : Nat), c ≤ n + (n + 768) / 4 → Builtin.growBy n r c ≤ n + (n + 768) / 4
  | 0, c, h => h
  | r + 1, c, h => by
    unfold Builtin.growBy
    split
    · exact h
    · refine growBy_le n r _ ?_
      rename_i hc
      have : c + (c + 768) / 4 ≤ n + (n + 768) / 4 := by omega
      exact this

theorem nextslicecap_le {need old : Nat} (h : old < need) : Builtin.nextslicecap need old ≤ 2 * need := by
  unfold Builtin.nextslicecap
  split
  · omega
  · split
    · omega
    · have := growBy_le need 4 old (by omega)
      omega

/-- The elements that are appended, as the source gives them. -/
theorem listOf_src {v : Value} {x : Val} {sz : Nat} {l : List D} {L : Loc} (h : RelT w G ρ lam L v x) (hl : listOf x = some (sz, l)) (hsz : 0 < sz) :
    ∃ us : List Value, (Builtin.lenOf v).run P w = .ok l.length w ∧ (Builtin.firstCells sz l.length v).run P w = .ok ⟨us⟩ w ∧ RdL w G us (l.flatMap D.cells) ∧ (∀ u, u ∈ us → u.oneCell' = true) ∧ (l ≠ [] → ∀ d, d ∈ l → d.cells.length = sz) ∧
      ∀ {w2 : World}, (∀ b off u, Cell w G b off u → w2.cell? ⟨b, off, none⟩ = some u) → (Builtin.firstCells sz l.length v).run P w2 = .ok ⟨us⟩ w2 := by
  by_cases hs : ∃ s, x = .d (.str s)
  · obtain ⟨s, rfl⟩ := hs
    simp only [listOf, Option.some.injEq, Prod.mk.injEq] at hl
    obtain ⟨rfl, rfl⟩ := hl
    obtain ⟨s1, rfl, rfl⟩ := h.str
    have hb : ∀ w2 : World, (Builtin.firstCells 1 (s1.data.toList.map byteD).length (.string s1)).run P w2 = .ok ⟨s1.data.toList.map fun b => .int .u8 b.toNat⟩ w2 := by
      intro w2
      simp only [Builtin.firstCells, List.length_map, Array.length_toList, Sem.run_pure]
      have : (s1.extract 0 s1.data.size).data = s1.data := by
        apply Array.ext'
        rw [Lib.extract_data, List.drop_zero, Nat.sub_zero]
        exact List.take_of_length_le (by rw [Array.length_toList]; exact Nat.le_refl _)
      rw [this]
      congr 1
      apply Array.ext'
      simp
    refine ⟨_, ?_, hb w, ?_, ?_, ?_, fun _ => hb _⟩
    · simp only [Builtin.lenOf, List.length_map, Array.length_toList, Sem.run_pure]; rfl
    · have : (s1.data.toList.map byteD).flatMap D.cells = s1.data.toList.map byteD := by
        generalize s1.data.toList = q
        induction q with
        | nil => rfl
        | cons y ys ih => simp only [List.map_cons, List.flatMap_cons, ih]; rfl
      rw [this]
      generalize s1.data.toList = q
      induction q with
      | nil => exact .nil
      | cons y ys ih => exact .cons _ _ _ _ (.int _ _) ih
    · intro u hu
      simp only [List.mem_map] at hu
      obtain ⟨y, _, rfl⟩ := hu
      rfl
    · intro _ d hd
      simp only [List.mem_map] at hd
      obtain ⟨y, _, rfl⟩ := hd
      rfl
  · have hl' : listS x = some (sz, l) := by
      cases x with
      | d y => cases y <;> first | exact hl | exact absurd ⟨_, rfl⟩ hs | simp [listOf] at hl
      | own => exact hl
      | _ => simp [listOf] at hl
    obtain ⟨ad, cap, rfl, hcap, hrest⟩ := (h.listS hl').slice
    by_cases hne : l = []
    · subst hne
      refine ⟨[], rfl, ?_, .nil, by simp, by simp, fun _ => ?_⟩
      · cases ad with
        | none => rfl
        | some ad => simp only [Builtin.firstCells, List.length_nil, Nat.zero_mul]; rfl
      · cases ad with
        | none => rfl
        | some ad => simp only [Builtin.firstCells, List.length_nil, Nat.zero_mul]; rfl
    · obtain ⟨b, off, vs, rfl, hw, hc, hr⟩ := hrest hne
      have hvl : vs.length = l.length * sz := by rw [hr.length]; exact flatMap_len hw
      have hread : ∀ {w2 : World}, (∀ b off u, Cell w G b off u → w2.cell? ⟨b, off, none⟩ = some u) → (Builtin.firstCells sz l.length (.slice (some ⟨b, off, none⟩) l.length cap)).run P w2 = .ok ⟨vs⟩ w2 := by
        intro w2 h2
        simp only [Builtin.firstCells]
        rw [← hvl]
        exact run_loadCells_list (P := P) w2 ⟨b, off, none⟩ vs (fun j v hv => by rw [Addr.add_mid]; exact h2 _ _ _ (hc j v hv))
      exact ⟨vs, rfl, hread (fun _ _ _ h => h.1), hr, hc.one, fun _ => hw, fun h2 => hread h2⟩

end
end Go.Vm
end

section
/- append, at an operation. Conditions: none. -/
namespace Go.Vm

section
variable {P : Program} {gl : Nat → List D} {n0 nt : Nat} {a : Act} {w w' : World} {G G' : Gh} {ρ ρ' : List Nat} {lam lam' : Nat → Option Nat} {st st' : St} {K : St → Prop} {o : Oper} {Q : Exit → Act → World → Prop}

def srcDesc : TypeDesc → Bool
  | .slice _ | .string => true
  | _ => false

theorem append_fits {t u e sz ty n m cap : Nat} {d : TypeDesc} {base : Option Addr} {x : Value} {us : List Value} {w1 : World} (ht : P.underlying t = some (.slice e)) (hz : szOf P e = some sz)
    (hu : P.underlying u = some d) (hd : srcDesc d = true)
    (hlen : (Builtin.lenOf x).run P w = .ok m w) (hx : (Builtin.firstCells sz m x).run P w = .ok ⟨us⟩ w) (hle : n + m ≤ cap)
    (hst : match base with | none => w1 = w | some ad => (storeCells (ad.add (n * sz)) us).run P w = .ok () w1) :
    (Builtin.append_ #[t, u] ty #[.slice base n cap, x]).run P w = .ok (.slice base (n + m) cap) w1 := by
  unfold Builtin.append_
  cases d <;> first
    | (simp [srcDesc] at hd; done)
    | (simp only [List.getElem?_toArray, List.getElem?_cons_zero, List.getElem?_cons_succ, Sem.run_bind, underlying_run ht, underlying_run hu, Result.andThen_ok, szOf_run hz, Sem.run_pure, Bool.false_eq_true, if_false, hlen, Sem.run_ite, if_pos hle, Bool.not_false, if_true, hx]
       cases base with
       | none => subst hst; simp only [Sem.run_pure]
       | some ad => simp only [Sem.run_bind, hst, Result.andThen_ok, Sem.run_pure])

theorem append_grows {t u e sz bt ty n m cap : Nat} {d : TypeDesc} {base : Option Addr} {x : Value} {us olds : List Value} {i : TypeInfo} {zv : Value} (ht : P.underlying t = some (.slice e)) (hz : szOf P e = some sz) (hi : P.info? e = some i) (hbt : i.bytes = bt) (hzv : i.zero = some zv)
    (hu : P.underlying u = some d) (hd : srcDesc d = true)
    (hlen : (Builtin.lenOf x).run P w = .ok m w) (hx : ∀ w2 : World, w2.heap = w.heap → (Builtin.firstCells sz m x).run P w2 = .ok ⟨us⟩ w2) (hold : ∀ w2 : World, w2.heap = w.heap → (Builtin.firstCells sz n (.slice base n cap)).run P w2 = .ok ⟨olds⟩ w2)
    (hgt : cap < n + m) (hb : 0 < bt) (hbig : (n + m) * bt ≤ 140737488355328) :
    ∃ cap' w1, (Builtin.append_ #[t, u] ty #[.slice base n cap, x]).run P w = .ok (.slice (some ⟨w.heap.size, 0, none⟩) (n + m) cap') w1 ∧ n + m ≤ cap' ∧
      Grew w (.cells ⟨(olds ++ us) ++ (Builtin.zeroCells zv.cells (cap' - (n + m))).toList⟩ e) w1 := by
  have hnc := nextslicecap_le hgt
  have h48 : ¬ Builtin.nextslicecap (n + m) cap * bt > 2 ^ 48 := by
    have h1 : Builtin.nextslicecap (n + m) cap * bt ≤ 2 * (n + m) * bt := Nat.mul_le_mul_right _ hnc
    have h2 : 2 * (n + m) * bt = 2 * ((n + m) * bt) := Nat.mul_assoc _ _ _
    have h3 : (2 : Nat) ^ 48 = 281474976710656 := by decide
    rw [h3]
    omega
  have hle : ¬ n + m ≤ cap := by omega
  have hti : ∀ w2 : World, (typeInfo e).run P w2 = .ok i w2 := fun w2 => by simp [typeInfo, Sem.run_bind, hi]
  have hov : ¬ (((n + m : Nat) : Int) > IntKind.i64.max ∧ (False ∨ bt = 0)) := by
    rintro ⟨_, h | h⟩
    · exact h
    · omega
  obtain ⟨cap', hcap⟩ : ∃ c, c = Question.cut (.appendCap (n + m) cap e) (w.tape w.drawn (.appendCap (n + m) cap e)) := ⟨_, rfl⟩
  refine ⟨cap', { w with drawn := w.drawn + 1, heap := w.heap.push (.cells ((⟨olds⟩ : Array Value) ++ ⟨us⟩ ++ Builtin.zeroCells zv.cells (cap' - (n + m))) e) }, ?_, ?_, ?_⟩
  rotate_left
  · rw [hcap]; exact Nat.le_add_right _ _
  · refine ⟨?_, rfl, rfl⟩
    show w.heap.push _ = w.heap.push _
    congr 2
    apply Array.ext'
    simp
  · unfold Builtin.append_
    have hx1 := hx { w with drawn := w.drawn + 1 } rfl
    have ho1 := hold { w with drawn := w.drawn + 1 } rfl
    cases d <;> first
      | (simp [srcDesc] at hd; done)
      | (simp only [List.getElem?_toArray, List.getElem?_cons_zero, List.getElem?_cons_succ, Sem.run_bind, underlying_run ht, underlying_run hu, Result.andThen_ok, szOf_run hz, Sem.run_pure, Bool.false_eq_true, if_false, hlen, Sem.run_ite, if_neg hle, Bool.not_false, if_true, hti, hbt, if_neg h48, zeroValue_run hi hzv]
         rw [if_neg hov]
         simp only [run_choose, Question.forced, Bool.false_eq_true, if_false, Result.andThen_ok, run_askRoom, Sem.run_bind, ho1, hx1, newRow, run_newObj, Sem.run_pure]
         rw [← hcap])

end
end Go.Vm
end

section
/- append, at an operation. Conditions: none. -/
namespace Go.Vm

section
variable {P : Program} {gl : Nat → List D} {n0 nt : Nat} {a : Act} {w w' : World} {G G' : Gh} {ρ ρ' : List Nat} {lam lam' : Nat → Option Nat} {st st' : St} {K : St → Prop} {o : Oper} {Q : Exit → Act → World → Prop}

theorem RelS.drop {tmps : Array Value} {s : Nat} (h : RelS gl w G ρ lam tmps st) : RelS gl w G ρ lam tmps (st.set s .undef) where
  tm t := by
    simp only [St.set, upd_eq]
    by_cases ht : t = s
    · simp only [ht, if_true]; exact .of_A (.undef _)
    · simp only [ht, if_false]; exact h.tm t
  bx := h.bx
  nb := h.nb
  ob := h.ob
  gb := h.gb
  lt := h.lt

theorem RdL.nilL {us : List Value} (h : RdL w G us []) : us = [] := by cases h; rfl

theorem sim_ap {d s t u e sz bt bnd : Nat} {x : Operand} {x' : O} {desc : TypeDesc} {t1 : Nat} {z : List Val} (p : Pre n0 gl nt w G ρ lam a st) (hod : o.dst = some d) (hdt : d < nt)
    (hop : o.op = .call { callee := .builtin .append, args := #[.tmp s, x], argTypes := #[t, u] }) (hx : opd P t1 x = some x') (ht : P.underlying t = some (.slice e)) (hsz : szOf P e = some sz) (hpos : 0 < sz)
    (hbt : bytesOf P e = some bt) (hb0 : 0 < bt) (hbnd : bnd = 140737488355328 / bt) (hz : zeros P e = some z) (hu : P.underlying u = some desc) (hdesc : srcDesc desc = true)
    (hs : step (AP P gl) gl (.ap d s x' sz bnd) st K) : o.wp P a w (After n0 gl nt w G ρ K) Q := by
  obtain ⟨i, zv, hi, hzv, hz1, hz2, _⟩ := zeros_spec hz
  have hib : i.bytes = bt := by unfold bytesOf at hbt; rw [hi] at hbt; simpa using hbt
  have hisz : zv.cells.size = sz := by unfold szOf at hsz; rw [hi] at hsz; simp at hsz; omega
  obtain ⟨Lx, hTx⟩ := ev_any hx p.rel
  have hexec : ∀ {v : Value} {w1 : World}, (Builtin.append_ #[t, u] o.type #[a.tmps.getD s undef, a.eval x]).run P w = .ok v w1 → (execOp a.eval o).run P w = .ok (.value v) w1 := by
    intro v w1 h
    have he : a.eval (.tmp s) = a.tmps.getD s undef := rfl
    simp only [execOp, hop, resolve, Sem.run_bind, Sem.run_pure, Result.andThen_ok, invoke, builtin, List.map_toArray, List.map_cons, List.map_nil, he, h]
  simp only [step] at hs
  split at hs
  · rename_i sz1 l sz2 l2 e1 e2
    obtain ⟨hg, hs⟩ := hs
    simp only [Bool.and_eq_true] at hg
    obtain ⟨⟨hg1, hg2⟩, hg3⟩ := hg
    obtain rfl : sz1 = sz := Nat.eq_of_beq_eq_true hg1
    obtain rfl : sz2 = sz1 := Nat.eq_of_beq_eq_true hg2
    have hg3 := Nat.le_of_ble_eq_true hg3
    have hbig : (l.length + l2.length) * bt ≤ 140737488355328 := by
      have := Nat.mul_le_mul_right bt hg3
      rw [hbnd] at this
      exact Nat.le_trans this (Nat.div_mul_le_self _ _)
    obtain ⟨us, hlen, hread, hus, hone, hw2, hread2⟩ := listOf_src (P := P) hTx e2 hpos
    have hTs := p.rel.tm s
    rw [e1] at hTs
    have hVs : RelV w G ρ (.slot s) (a.tmps.getD s undef) (.own sz2 l) := hTs
    by_cases hnil : l2 = []
    · -- nothing is appended: the slice itself
      subst hnil
      have hus0 : us = [] := hus.nilL
      subst hus0
      have hval : ∃ ad n c, a.tmps.getD s undef = .slice ad n c ∧ n = l.length ∧ n ≤ c := by
        rcases hVs.cases with hA | ⟨_, _, _, _, hO⟩
        · cases hv : a.tmps.getD s undef <;> rw [hv] at hA <;> cases hA
          exact ⟨_, _, _, rfl, rfl, Nat.le_refl _⟩
        · simp only [Val.own.injEq] at *
          rename_i h3; obtain ⟨rfl, rfl⟩ := h3
          obtain ⟨b, off, cap, c, E, fz, vs, h1, h2, _⟩ := hO
          exact ⟨_, _, _, h1, rfl, h2⟩
      obtain ⟨ad, n, c, hv, hn, hc⟩ := hval
      have hrun := append_fits (P := P) (ty := o.type) (n := n) (m := 0) (cap := c) (base := ad) (w1 := w) ht hsz hu hdesc hlen hread (by omega) (by cases ad <;> rfl)
      rw [Nat.add_zero, ← hv] at hrun
      rw [List.append_nil, ← e1] at hs
      have hrun' := hexec hrun
      exact wp_value hrun' (after_take p.rel p.df p.sz hdt (Good.refl p.rel.lt) (fun _ _ h => h) hod hs)
    · have hl2 := hw2 hnil
      have hm : 0 < l2.length := List.length_pos_iff.2 hnil
      have hul : us.length = l2.length * sz2 := by rw [hus.length]; exact flatMap_len hl2
      -- a new block takes all
      have grow : ∀ (ad : Option Addr) (cap : Nat) (olds : List Value), a.tmps.getD s undef = .slice ad l.length cap → (∀ w2 : World, w2.heap = w.heap → (Builtin.firstCells sz2 l.length (.slice ad l.length cap)).run P w2 = .ok ⟨olds⟩ w2) →
          RdL w G olds (l.flatMap D.cells) → (∀ u, u ∈ olds → u.oneCell' = true) → (∀ d, d ∈ l → d.cells.length = sz2) → cap < l.length + l2.length → o.wp P a w (After n0 gl nt w G ρ K) Q := by
        intro ad cap olds hv hold holds ho1 hl hlt
        have hcellsame : ∀ w2 : World, w2.heap = w.heap → ∀ b off u, Cell w G b off u → w2.cell? ⟨b, off, none⟩ = some u := by
          intro w2 h2 b off u h3
          have := cell_congr (w := w) (w' := w2) (b := b) (off := off) (by rw [h2])
          rw [this]; exact h3.1
        obtain ⟨cap', w1, hrun, hcap', hgrew⟩ := append_grows (P := P) (ty := o.type) (base := ad) (x := a.eval x) ht hsz hi hib hzv hu hdesc hlen (fun w2 h2 => hread2 (hcellsame w2 h2)) hold hlt hb0 hbig
        rw [← hv] at hrun
        have hall : ∀ d, d ∈ l ++ l2 → d.cells.length = sz2 := by
          intro d hd
          rcases List.mem_append.1 hd with h | h
          · exact hl d h
          · exact hl2 d h
        have hlen2 : (l ++ l2).length = l.length + l2.length := by simp
        have hzc : (Builtin.zeroCells zv.cells (cap' - (l.length + l2.length))).toList.length = (cap' - (l.length + l2.length)) * sz2 := by
          simp [Builtin.zeroCells, hisz]
        have hol : olds.length = l.length * sz2 := by rw [holds.length]; exact flatMap_len hl
        refine wp_value (hexec hrun) (after_new (L0 := .slot d) (m := (l ++ l2).length * sz2) p p.rel.drop hgrew (by simp) hod hdt (.of_V ?_) hs)
        have := new_own (ρ := ρ) (d := d) (cap := cap') hgrew hpos hall (by simp [hnil]) (by rw [List.flatMap_append]; exact holds.append hus) (by rw [hlen2]; exact hcap')
          (by
            rw [List.length_append, List.length_append, hol, hul, hzc, ← Nat.add_mul, ← Nat.add_mul]
            congr 1; omega)
          (by simp) (fun v hv => by
            rcases List.mem_append.1 hv with h | h
            · exact ho1 v h
            · exact hone v h)
        rw [hlen2] at this ⊢
        exact this
      rcases hVs.cases with hA | ⟨sz3, q, l3, heq, hO⟩
      · have : l = [] ∧ ∃ ad, a.tmps.getD s undef = .slice ad 0 0 := by
          cases hv : a.tmps.getD s undef <;> rw [hv] at hA <;> cases hA
          exact ⟨rfl, _, rfl⟩
        obtain ⟨rfl, ad, hv⟩ := this
        refine grow ad 0 [] hv (fun w2 _ => ?_) .nil (by simp) (by simp) (by simpa using hm)
        cases ad with
        | none => rfl
        | some ad => simp only [Builtin.firstCells, List.length_nil, Nat.zero_mul]; rfl
      · simp only [Val.own.injEq] at heq
        obtain ⟨rfl, rfl⟩ := heq
        obtain ⟨b, off, cap, c, E, fz, vs, h1, h2, h3, h4, h5, h6, h7, h8, h9, h10⟩ := hO
        have hvl : vs.length = (q :: l3).length * sz2 := by rw [h10.length]; exact flatMap_len h8
        by_cases hfit : (q :: l3).length + l2.length ≤ cap
        · -- it fits: what lies behind the end is written
          have hspace : off + (q :: l3).length * sz2 + 0 + us.length ≤ c.size := by
            rw [hul]
            have : ((q :: l3).length + l2.length) * sz2 ≤ cap * sz2 := Nat.mul_le_mul_right _ hfit
            rw [Nat.add_mul] at this
            omega
          obtain ⟨c', w1a, w1b, w1c, w1d, w1e, w1f⟩ := own_write (b := b) (m := off + (q :: l3).length * sz2) (us := us) (k := 0) h3 hspace
          rw [Nat.add_zero] at w1a w1c w1d w1e w1f
          obtain ⟨hk, hsame, hgood, hltn⟩ := ext_facts (w := w) (L' := .slot d) (m' := off + ((q :: l3).length + l2.length) * sz2) h7 (by rw [Nat.add_mul]; omega) h3 w1a (fun j hj => w1c j (by omega)) w1e w1f p.rel.lt (by simp) (by simp) setCells_env.1 setCells_env.2
          have hstore := run_storeCells_cells (P := P) b (off + (q :: l3).length * sz2) us 0 w
            (fun j hj => by
              rw [Nat.add_zero, cell_of_block h3]
              have : off + (q :: l3).length * sz2 + j < c.size := by omega
              rw [Array.getElem?_eq_getElem this]; rfl)
            (fun j hj => by
              rw [Nat.add_zero, frozen_of_block h3]
              have : off + (q :: l3).length * sz2 + j < c.size := by omega
              have := h4 _ this
              simp only [Bool.and_eq_false_imp, decide_eq_true_eq, decide_eq_false_iff_not]
              exact fun e1 e2 => this ⟨e1, e2⟩)
            hone
          rw [Nat.add_zero] at hstore
          have hrun := append_fits (P := P) (ty := o.type) (n := (q :: l3).length) (m := l2.length) (cap := cap) (base := some ⟨b, off, none⟩) (w1 := w.setCells b (off + (q :: l3).length * sz2) us) ht hsz hu hdesc hlen hread hfit
            (show (storeCells ((⟨b, off, none⟩ : Addr).add _) us).run P w = _ by rw [Addr.add_mid]; exact hstore)
          rw [← h1] at hrun
          refine wp_value (hexec hrun) ?_
          have hrel : RelS gl (w.setCells b (off + (q :: l3).length * sz2) us) (upd G b (some (.slot d, off + ((q :: l3).length + l2.length) * sz2))) ρ lam a.tmps (st.set s .undef) := by
            refine ⟨fun t => ?_, ?_, p.rel.nb, p.rel.ob.tr hk (fun _ => hsame _ (by simp)) (fun _ _ => hsame _ (by simp)), p.rel.gb.tr hk, hltn⟩
            · simp only [St.set, upd_eq]
              by_cases hts : t = s
              · simp only [hts, if_true]; exact .of_A (.undef _)
              · simp only [hts, if_false]
                exact (p.rel.tm t).tr hk (fun _ _ h => h) (fun _ _ h => h) (hsame _ (by simp [hts]))
            · intro t cs hb
              obtain ⟨b2, g1, g2⟩ := p.rel.bx t cs hb
              exact ⟨b2, g1, RelBox.tr hk (fun _ _ h => h) (hsame _ (by simp)) (fun j => hsame _ (by simp)) g2⟩
          refine after_set hrel p.df p.sz hdt hgood (fun _ _ h => h) hod (.of_V ?_) hs
          have hll : (q :: l3 ++ l2).length = (q :: l3).length + l2.length := List.length_append
          refine ⟨b, off, cap, c', E, fz, vs ++ us, by rw [← hll]; rfl, by rw [← hll] at hfit; exact hfit, w1a, by rw [w1b]; exact h4, by rw [w1b]; exact h5, h6, ?_, ?_, ?_, ?_⟩
          · rw [upd_self, ← hll]; rfl
          · intro d hd
            rcases List.mem_append.1 (show d ∈ (q :: l3) ++ l2 from hd) with h | h
            · exact h8 d h
            · exact hl2 d h
          · intro j v hv
            rcases Nat.lt_or_ge j vs.length with hj | hj
            · rw [List.getElem?_append_left hj] at hv
              exact hk _ _ _ (h9 j v hv)
            · rw [List.getElem?_append_right hj] at hv
              have hj2 : j - vs.length < us.length := by
                rcases Nat.lt_or_ge (j - vs.length) us.length with h | h
                · exact h
                · rw [List.getElem?_eq_none h] at hv; simp at hv
              refine ⟨?_, ?_, hone v (List.mem_of_getElem? hv)⟩
              · rw [cell_of_block w1a]
                have := w1d (j - vs.length) v hv
                rw [show off + (q :: l3).length * sz2 + (j - vs.length) = off + j by omega] at this
                exact this
              · intro L2 n hG
                rw [upd_self] at hG
                simp only [Option.some.injEq, Prod.mk.injEq] at hG
                have : ((q :: l3).length + l2.length) * sz2 = (q :: l3).length * sz2 + l2.length * sz2 := Nat.add_mul _ _ _
                omega
          · have := (h10.keep hk).append (hus.keep hk)
            rw [← List.flatMap_append] at this
            exact this
        · refine grow (some ⟨b, off, none⟩) cap vs h1 (fun w2 hw => ?_) h10 h9.one h8 (by omega)
          simp only [Builtin.firstCells]
          rw [← hvl]
          exact run_loadCells_list (P := P) w2 ⟨b, off, none⟩ vs (fun j v hv => by
            rw [Addr.add_mid, cell_congr (w := w) (w' := w2) (by rw [hw])]; exact (h9 j v hv).1)
  · exact hs.elim

end
end Go.Vm
end

section
/- Strings and bytes; maps. Conditions: none. -/
namespace Go.Vm

section
variable {P : Program} {gl : Nat → List D} {n0 nt : Nat} {a : Act} {w w' : World} {G G' : Gh} {ρ ρ' : List Nat} {lam lam' : Nat → Option Nat} {st st' : St} {K : St → Prop} {o : Oper} {Q : Exit → Act → World → Prop}

theorem sim_sb {d s t e t1 : Nat} {x : Operand} {x' : O} (p : Pre n0 gl nt w G ρ lam a st) (hod : o.dst = some d) (hdt : d < nt) (hop : o.op = .convert s t x) (hx : opd P t1 x = some x')
    (hu1 : P.underlying s = some .string) (hu2 : P.underlying t = some (.slice e)) (hu3 : P.underlying e = some (.int .u8))
    (hs : step (AP P gl) gl (.sb d x') st K) : o.wp P a w (After n0 gl nt w G ρ K) Q := by
  obtain ⟨L1, h1⟩ := ev_any hx p.rel
  simp only [step] at hs
  split at hs
  · rename_i q e1
    rw [e1] at h1
    obtain ⟨s1, v1, rfl⟩ := h1.str
    obtain ⟨cap, hcap⟩ : ∃ c, c = Question.cut (.appendCap s1.size 0 e) (w.tape w.drawn (.appendCap s1.size 0 e)) := ⟨_, rfl⟩
    have hle : s1.size ≤ cap := by rw [hcap]; exact Nat.le_add_right _ _
    let els : Array Value := s1.data.map fun b => .int .u8 b.toNat
    let ob : Obj := .cells (els ++ Array.replicate (cap - s1.size) (Value.int .u8 0)) e (cap, cap + 1)
    have hsz : (els ++ Array.replicate (cap - s1.size) (Value.int .u8 0)).size = cap := by
      simp only [els, Array.size_append, Array.size_map, Array.size_replicate]
      show s1.size + (cap - s1.size) = cap
      omega
    have hr : (execOp a.eval o).run P w = .ok (.value (.slice (some ⟨w.heap.size, 0, none⟩) s1.size cap)) { w with drawn := w.drawn + 1, heap := w.heap.push ob } := by
      simp only [execOp, hop, v1, convert, Sem.run_bind, underlying_run hu1, underlying_run hu2, underlying_run hu3, Result.andThen_ok, Conv.stringToBytes, run_choose, Question.forced, Bool.false_eq_true, if_false, newRow, run_newObj, Sem.run_pure, markStringish, run_shape]
      rw [← hcap]
      have hshape : (World.shape? { w with drawn := w.drawn + 1, heap := w.heap.push (.cells (els ++ Array.replicate (cap - s1.size) (.int .u8 0)) e (0, 0)) } w.heap.size) = some (e, cap) := by
        unfold World.shape?
        simp only [Array.getElem?_push_size]
        rw [hsz]
      simp only [els] at hshape
      simp only [hshape, Result.andThen_ok, run_freeze]
      congr 1
      unfold World.freeze
      simp only [Nat.one_ne_zero, if_false]
      congr 1
      apply Array.ext
      · simp
      · intro i h1 h2
        simp only [Array.getElem_modify]
        split
        · rename_i hi
          subst hi
          simp [ob, els]
        · rename_i hi
          have hlt : i < w.heap.size := by simp at h1; omega
          simp [Array.getElem_push, hlt]
    have hcl : (els ++ Array.replicate (cap - s1.size) (Value.int .u8 0)) = ⟨(s1.data.toList.map fun b => Value.int .u8 b.toNat) ++ (List.replicate (cap - s1.size) (.int .u8 0))⟩ := by
      apply Array.ext'; simp [els]
    have hw : Grew w (.cells ⟨(s1.data.toList.map fun b => Value.int .u8 b.toNat) ++ (List.replicate (cap - s1.size) (.int .u8 0))⟩ e (cap, cap + 1)) { w with drawn := w.drawn + 1, heap := w.heap.push ob } := ⟨by
      show w.heap.push ob = _
      simp only [ob, hcl], rfl, rfl⟩
    refine wp_value hr (after_new (L0 := .res) (m := s1.size) p p.rel hw (by simp) hod hdt (.of_A (.d _ _ ?_)) hs)
    have hfl : (s1.data.toList.map byteD).flatMap D.cells = s1.data.toList.map byteD := by
      generalize s1.data.toList = q
      induction q with
      | nil => rfl
      | cons y ys ih => simp only [List.map_cons, List.flatMap_cons, ih]; rfl
    refine .list w.heap.size 0 _ cap 1 _ (s1.data.toList.map fun b => Value.int .u8 b.toNat) (by simp) hle ?_ ?_ ?_
    · intro d hd
      simp only [List.mem_map] at hd
      obtain ⟨y, _, rfl⟩ := hd
      rfl
    · exact new_cells hw (by simp) (by
        intro v hv
        simp only [List.mem_map] at hv
        obtain ⟨y, _, rfl⟩ := hv
        rfl)
    · rw [hfl]
      generalize s1.data.toList = q
      induction q with
      | nil => exact .nil
      | cons y ys ih => exact .cons _ _ _ _ (.int _ _) ih
  · exact hs.elim

theorem bytesOf_rel : ∀ {l : List D} {s : List UInt8} {vs : List Value}, unbytes l = some s → RdL w G vs (l.flatMap D.cells) → ∃ ns : List Int, vs = ns.map (Value.int .u8) ∧ ns.map (fun n => UInt8.ofNat n.toNat) = s ∧ ns.length = l.length
  | [], s, vs, h, hr => by
    simp only [unbytes, Option.some.injEq] at h
    subst h
    cases hr
    exact ⟨[], rfl, rfl, rfl⟩
  | x :: l, s, vs, h, hr => by
    cases x <;> first | (simp only [unbytes, reduceCtorEq] at h; done) | skip
    rename_i k n
    cases k <;> first | (simp only [unbytes, reduceCtorEq] at h; done) | skip
    simp only [unbytes] at h
    cases hb : unbytes l with
    | none => simp [hb] at h
    | some s' =>
      simp only [hb, Option.some.injEq] at h
      subst h
      have hr' : RdL w G vs (.int .u8 n :: l.flatMap D.cells) := hr
      cases hr' with
      | cons v _ vs' _ h1 h2 =>
        cases h1
        obtain ⟨ns, rfl, rfl, h5⟩ := bytesOf_rel hb h2
        exact ⟨n :: ns, rfl, rfl, by simp [h5]⟩

theorem sim_bs {d s t e t1 : Nat} {x : Operand} {x' : O} (p : Pre n0 gl nt w G ρ lam a st) (hod : o.dst = some d) (hdt : d < nt) (hop : o.op = .convert s t x) (hx : opd P t1 x = some x')
    (hu1 : P.underlying s = some (.slice e)) (hu2 : P.underlying t = some .string) (hu3 : P.underlying e = some (.int .u8))
    (hs : step (AP P gl) gl (.bs d x') st K) : o.wp P a w (After n0 gl nt w G ρ K) Q := by
  obtain ⟨L1, h1⟩ := ev_any hx p.rel
  simp only [step] at hs
  split at hs
  · rename_i sz l e1
    split at hs
    · rename_i q hq
      obtain ⟨ad, cap, v1, hcap, hrest⟩ := (h1.listS e1).slice
      have hconv := run_convert_bytes_string (P := P) w s t e ad l.length cap hu1 hu3 hu2
      by_cases hne : l = []
      · subst hne
        simp only [unbytes, Option.some.injEq] at hq
        subst hq
        have hb : (Conv.bytesToString (.slice ad 0 cap)).run P w = .ok (.string .empty) w := by
          cases ad with
          | none => rfl
          | some ad => rfl
        refine p.value hod hdt (v := .string .empty) ?_ (.of_A (.d _ _ (.str _ _ rfl))) hs
        simp only [List.length_nil] at hconv v1
        simp only [execOp, hop, v1, Sem.run_bind, hconv, hb, Result.andThen_ok, Sem.run_pure]
      · obtain ⟨b, off, vs, rfl, hw, hc, hr⟩ := hrest hne
        obtain ⟨ns, rfl, rfl, hlen⟩ := bytesOf_rel hq hr
        have hload : (loadCells ⟨b, off, none⟩ l.length).run P w = .ok (ns.map (Value.int .u8)).toArray w := by
          have := run_loadCells_list (P := P) w ⟨b, off, none⟩ (ns.map (Value.int .u8)) (fun j v hv => by rw [Addr.add_mid]; exact (hc j v hv).1)
          rw [List.length_map, hlen] at this
          exact this
        have hb := run_bytesToString (P := P) w ⟨b, off, none⟩ l.length cap ns hload
        refine p.value hod hdt (v := .string (ns.foldl (fun r n => r.push (UInt8.ofNat n.toNat)) ByteArray.empty)) ?_ (.of_A (.d _ _ (.str _ _ ?_))) hs
        · simp only [execOp, hop, v1, Sem.run_bind, hconv, hb, Result.andThen_ok, Sem.run_pure]
        · have : ∀ (ns : List Int) (r : ByteArray), (ns.foldl (fun r n => r.push (UInt8.ofNat n.toNat)) r).data.toList = r.data.toList ++ ns.map (fun n => UInt8.ofNat n.toNat) := by
            intro ns
            induction ns with
            | nil => intro r; simp
            | cons n ns ih =>
              intro r
              rw [List.foldl_cons, ih]
              simp [ByteArray.push]
          rw [this]; rfl
    · exact hs.elim
  · exact hs.elim

end
end Go.Vm
end

section
/- Maps. Conditions: none. -/
namespace Go.Vm

section
variable {P : Program} {gl : Nat → List D} {n0 nt : Nat} {a : Act} {w w' : World} {G G' : Gh} {ρ ρ' : List Nat} {lam lam' : Nat → Option Nat} {st st' : St} {K : St → Prop} {o : Oper} {Q : Exit → Act → World → Prop}

/-! ### May a value be a key? -/

theorem checkFields_run (n m : Nat) (em : Bool) (ih : ∀ (t : Nat) (ks : List Nat) (vs : List Value) (v : Value), kinds P n t = some ks → vs.length = ks.length → shaped P t vs v → (Instr.checkKey em m t v).run P w = .ok () w) (V : Array Value) :
    ∀ (fs : List Field) (off : Nat) (ks : List Nat), kindsF P (kinds P n) fs off = some ks → off + ks.length ≤ V.size →
      (forIn (m := Sem) fs PUnit.unit fun f _ => do
        if f.name ≠ "_" then Instr.checkKey em m f.type (← part f.type V f.offset)
        pure (ForInStep.yield PUnit.unit)).run P w = .ok PUnit.unit w
  | [], _, _, _, _ => rfl
  | f :: fs, off, ks, h, hl => by
    unfold kindsF at h
    split at h
    · rename_i hn
      obtain ⟨hname, hoff⟩ := hn
      cases hk : kinds P n f.type with
      | none => simp [hk] at h
      | some k1 =>
        simp only [hk] at h
        cases hf : kindsF P (kinds P n) fs (off + k1.length) with
        | none => simp [hf] at h
        | some k2 =>
          simp only [hf] at h
          split at h
          · rename_i hsz
            simp only [Option.some.injEq] at h; subst h
            simp only [List.length_append] at hl
            obtain ⟨pv, hpv, sv⟩ := part_run (off := off) hk hsz V (by omega) (kinds_one hk) w
            have hr1 := ih f.type k1 _ pv hk (by simp only [List.length_take, List.length_drop]; have : V.toList.length = V.size := Array.length_toList; omega) sv
            have hr2 := checkFields_run n m em ih V fs (off + k1.length) k2 hf (by omega)
            rw [List.forIn_cons]
            rw [if_pos hname, hoff]
            simp only [Sem.run_bind, hpv, Result.andThen_ok, hr1, Sem.run_pure, hr2]
          · simp at h
    · simp at h

theorem checkKey_run (em : Bool) : ∀ (n m t : Nat) (ks : List Nat) (vs : List Value) (v : Value), kinds P n t = some ks → n ≤ m → vs.length = ks.length → shaped P t vs v → (Instr.checkKey em m t v).run P w = .ok () w
  | 0, _, _, _, _, _, h, _, _, _ => by simp [kinds] at h
  | n + 1, 0, _, _, _, _, _, h, _, _ => absurd h (by omega)
  | n + 1, m + 1, t, ks, vs, v, h, hm, hl, sv => by
    unfold kinds at h
    cases ht : P.underlying t with
    | none => simp [ht] at h
    | some desc =>
      simp only [ht] at h
      cases desc <;> simp only [reduceCtorEq, Option.some.injEq] at h
      case struct fs =>
        have hs : isStruct P t = true := by simp [isStruct, ht]
        unfold shaped at sv
        rw [if_pos hs] at sv
        subst sv
        split at h
        · have := checkFields_run n m em (fun t ks vs v h1 h2 h3 => checkKey_run em n m t ks vs v h1 (by omega) h2 h3) ⟨vs⟩ fs.toList 0 ks h (by simp [hl])
          unfold Instr.checkKey
          simp only [Sem.run_bind, underlying_run ht, Result.andThen_ok]
          rw [← Array.forIn_toList, this]
          rfl
        · simp at h
      all_goals
        unfold Instr.checkKey
        simp only [Sem.run_bind, underlying_run ht, Result.andThen_ok]
        rfl

/-! ### Where a key stands -/

theorem eqK_refl_kind {ks : List Nat} {x y : D} {r : Bool} (_h : eqK ks x.cells y.cells = some r) : True := trivial

/-- The entries of a map, and the machine's. -/
def EntRel (w : World) (G : Gh) (ρ : List Nat) (mes : List MapEntry) (es : List (D × Val)) : Prop := All2 (fun e p => Rd w G e.key p.1 ∧ RelA w G ρ e.val p.2) mes es

theorem entRel_of {mes : Array MapEntry} {es : List (D × Val)} (hl : mes.size = es.length) (h : ∀ (j : Nat) (e : MapEntry) (p : D × Val), mes[j]? = some e → es[j]? = some p → Rd w G e.key p.1 ∧ RelA w G ρ e.val p.2) : EntRel w G ρ mes.toList es := by
  have key : ∀ (l : List MapEntry) (es : List (D × Val)), l.length = es.length → (∀ (j : Nat) (e : MapEntry) (p : D × Val), l[j]? = some e → es[j]? = some p → Rd w G e.key p.1 ∧ RelA w G ρ e.val p.2) → EntRel w G ρ l es := by
    intro l
    induction l with
    | nil => intro es hl _; cases es with | nil => exact .nil | cons => simp at hl
    | cons e l ih =>
      intro es hl h
      cases es with
      | nil => simp at hl
      | cons p es => exact .cons (h 0 e p rfl rfl) (ih es (by simpa using hl) fun j e p h1 h2 => h (j + 1) e p (by simpa using h1) (by simpa using h2))
  exact key mes.toList es (by simpa using hl) fun j e p h1 h2 => h j e p (by simpa using h1) h2

/-- What is found: nothing, or the entry at a place. -/
def foundAt (mes : List MapEntry) (i : Nat) : Option Nat → Option (Nat × Value)
  | none => none
  | some j => (mes[j - i]?).map fun e => (j, e.val)

theorem findK_ge {ag : Bool} {ks : List Nat} {k : D} : ∀ {es : List (D × Val)} {i j : Nat}, findK ag ks k es i = some (some j) → i ≤ j ∧ j < i + es.length
  | [], i, j, h => by simp [findK] at h
  | e :: es, i, j, h => by
    simp only [findK] at h
    cases hg : isAg ag e.1 with
    | false => simp [hg] at h
    | true =>
      simp only [hg, cond_true] at h
      split at h
      · simp at h; subst h; simp
      · have := findK_ge h; simp only [List.length_cons]; omega
      · simp at h

theorem findAsking_run {kt : Nat} {ks : List Nat} {ag : Bool} {u : Value} {k : D} (hk : kinds P 10 kt = some ks) (hag : isStruct P kt = ag) (hu : Rd w G u k) (ha : isAg ag k = true) :
    ∀ {mes : List MapEntry} {es : List (D × Val)} {i : Nat} {r : Option Nat}, EntRel w G ρ mes es → findK ag ks k es i = some r → (Instr.findAsking kt u mes i).run P w = .ok (foundAt mes i r) w
  | [], _, i, r, h, hf => by
    cases h
    simp only [findK, Option.some.injEq] at hf
    subst hf
    rfl
  | e :: mes, _, i, r, h, hf => by
    cases h with
    | cons he h =>
      rename_i p es
      simp only [findK] at hf
      cases ha2 : isAg ag p.1 with
      | false => simp [ha2] at hf
      | true =>
      simp only [ha2, cond_true] at hf
      cases hq : eqK ks k.cells p.1.cells with
      | none => simp [hq] at hf
      | some b =>
        have heq := equal_run (P := P) hk hag hu he.1 ha ha2 hq
        simp only [hq] at hf
        cases b with
        | true =>
          simp only [Option.some.injEq] at hf
          subst hf
          simp only [Instr.findAsking, Sem.run_bind, heq, Result.andThen_ok, if_true, Sem.run_pure, foundAt, Nat.sub_self, List.getElem?_cons_zero, Option.map_some]
        | false =>
          have ih := findAsking_run hk hag hu ha h hf
          simp only [Instr.findAsking, Sem.run_bind, heq, Result.andThen_ok, Bool.false_eq_true, if_false, ih]
          congr 1
          cases r with
          | none => rfl
          | some j =>
            have hge := (findK_ge hf).1
            simp only [foundAt]
            rw [show j - i = (j - (i + 1)) + 1 by omega, List.getElem?_cons_succ]

theorem sameNow_run {kt : Nat} {ks : List Nat} {desc : TypeDesc} {u v : Value} {x y : D} {r : Bool} (hk : kinds P 10 kt = some ks) (hd : P.underlying kt = some desc) (hag : isStruct P kt = false) (hx : Rd w G u x) (hy : Rd w G v y) (a1 : isAg false x = true) (a2 : isAg false y = true)
    (he : eqK ks x.cells y.cells = some r) : Instr.sameNow desc u v = some r := by
  have hxc : x.cells = [x] := by cases x <;> first | rfl | simp [isAg] at a1
  have hyc : y.cells = [y] := by cases y <;> first | rfl | simp [isAg] at a2
  rw [hxc, hyc] at he
  unfold kinds at hk
  simp only [hd] at hk
  cases desc <;> simp only [reduceCtorEq, Option.some.injEq] at hk
  case bool =>
    subst hk
    obtain ⟨p, q, rfl, rfl, rfl⟩ := eqK_bool he
    cases hx; cases hy; rfl
  case int =>
    subst hk
    obtain ⟨k, p, q, rfl, rfl, rfl⟩ := eqK_int he
    cases hx; cases hy
    simp [Instr.sameNow, int_beq]
  case string =>
    subst hk
    obtain ⟨p, q, rfl, rfl, rfl⟩ := eqK_str he
    cases hx with | str s1 _ h1 => cases hy with | str s2 _ h2 => simp only [Instr.sameNow]; rw [beq_toListBytes, ByteArray.toList_eq, ByteArray.toList_eq, h1, h2, beq_list]
  case struct => simp [isStruct, hd] at hag

theorem findNow_run {kt : Nat} {ks : List Nat} {desc : TypeDesc} {u : Value} {k : D} (hk : kinds P 10 kt = some ks) (hd : P.underlying kt = some desc) (hag : isStruct P kt = false) (hu : Rd w G u k) (ha : isAg false k = true) :
    ∀ {mes : List MapEntry} {es : List (D × Val)} {i : Nat} {r : Option Nat}, EntRel w G ρ mes es → findK false ks k es i = some r → Instr.findNow desc u mes i = some (foundAt mes i r)
  | [], _, i, r, h, hf => by
    cases h
    simp only [findK, Option.some.injEq] at hf
    subst hf
    rfl
  | e :: mes, _, i, r, h, hf => by
    cases h with
    | cons he h =>
      rename_i p es
      simp only [findK] at hf
      cases ha2 : isAg false p.1 with
      | false => simp [ha2] at hf
      | true =>
      simp only [ha2, cond_true] at hf
      cases hq : eqK ks k.cells p.1.cells with
      | none => simp [hq] at hf
      | some b =>
        have heq := sameNow_run (P := P) hk hd hag hu he.1 ha ha2 hq
        simp only [hq] at hf
        cases b with
        | true =>
          simp only [Option.some.injEq] at hf
          subst hf
          simp only [Instr.findNow, heq, foundAt, Nat.sub_self, List.getElem?_cons_zero, Option.map_some]
        | false =>
          have ih := findNow_run hk hd hag hu ha h hf
          simp only [Instr.findNow, heq, ih]
          congr 1
          cases r with
          | none => rfl
          | some j =>
            have hge := (findK_ge hf).1
            simp only [foundAt]
            rw [show j - i = (j - (i + 1)) + 1 by omega, List.getElem?_cons_succ]

theorem findKey_run {kt : Nat} {ks : List Nat} {ag : Bool} {u : Value} {k : D} (hk : kinds P 10 kt = some ks) (hag : isStruct P kt = ag) (hu : Rd w G u k) (ha : isAg ag k = true)
    {mes : List MapEntry} {es : List (D × Val)} {r : Option Nat} (h : EntRel w G ρ mes es) (hf : findK ag ks k es 0 = some r) : (Instr.findKey kt u mes).run P w = .ok (foundAt mes 0 r) w := by
  have hd : ∃ desc, P.underlying kt = some desc := by
    unfold kinds at hk
    cases hd : P.underlying kt with
    | none => simp [hd] at hk
    | some d => exact ⟨d, rfl⟩
  obtain ⟨desc, hd⟩ := hd
  unfold Instr.findKey
  simp only [Sem.run_bind, underlying_run hd, Result.andThen_ok]
  cases ag with
  | false =>
    rw [findNow_run hk hd hag hu ha h hf]
    rfl
  | true =>
    have hask := findAsking_run hk hag hu ha h hf
    cases mes with
    | nil =>
      cases h
      simp only [findK, Option.some.injEq] at hf
      subst hf
      rfl
    | cons e mes =>
      have : Instr.findNow desc u (e :: mes) 0 = none := by
        cases desc <;> simp [isStruct, hd] at hag
        simp [Instr.findNow, Instr.sameNow]
      rw [this]
      exact hask

end
end Go.Vm
end

section
/- Maps, at operations. Conditions: none. -/
namespace Go.Vm

section
variable {P : Program} {gl : Nat → List D} {n0 nt : Nat} {a : Act} {w w' : World} {G G' : Gh} {ρ ρ' : List Nat} {lam lam' : Nat → Option Nat} {st st' : St} {K : St → Prop} {o : Oper} {Q : Exit → Act → World → Prop}

theorem RelS.newOb {d : Nat} {ob : Obj} {vo : Ob} {v : Value} {x : Val} (h : RelS gl w G ρ lam a.tmps st) (hw : Grew w ob w') (hd : d < a.tmps.size)
    (ho : RelO w' (newG w G (.obj st.s.length) 0) (ρ ++ [w.heap.size]) st.s.length w.heap.size vo) (hx : RelA w' (newG w G (.obj st.s.length) 0) (ρ ++ [w.heap.size]) v x) :
    RelS gl w' (newG w G (.obj st.s.length) 0) (ρ ++ [w.heap.size]) lam (a.tmps.setIfInBounds d v) ({ st with s := st.s ++ [vo] }.set d x) := by
  have hρ : ∀ i b : Nat, ρ[i]? = some b → (ρ ++ [w.heap.size])[i]? = some b := by
    intro i b hi
    have hl : i < ρ.length := by
      rcases Nat.lt_or_ge i ρ.length with h' | h'
      · exact h'
      · rw [List.getElem?_eq_none h'] at hi; simp at hi
    rw [List.getElem?_append_left hl]; exact hi
  have h0 := hw.rel (L0 := .obj st.s.length) (n0 := 0) h.lt h
  refine RelS.set (st := { st with s := st.s ++ [vo] }) ⟨fun t => ?_, ?_, h0.nb, ⟨by simp [h.ob.1], ?_⟩, h0.gb, h0.lt⟩ hd (.of_A hx)
  · exact (h0.tm t).tr (Keeps.refl _ _) hρ (fun _ _ h => h) (fun b n h => ⟨rfl, h⟩)
  · intro t cs' ht
    obtain ⟨b, h1, h2⟩ := h0.bx t cs' ht
    exact ⟨b, h1, RelBox.tr (Keeps.refl _ _) hρ (fun b n h => ⟨rfl, h⟩) (fun j b n h => ⟨rfl, h⟩) h2⟩
  · intro i b o hb ho'
    rcases getElem?_snoc hb with hb' | ⟨hi, rfl⟩
    · have hil : i < st.s.length := by
        rw [← h.ob.1]
        rcases Nat.lt_or_ge i ρ.length with h' | h'
        · exact h'
        · rw [List.getElem?_eq_none h'] at hb'; simp at hb'
      rw [List.getElem?_append_left hil] at ho'
      exact (h0.ob.2 i b o hb' ho').tr (Keeps.refl _ _) hρ (fun b n h => ⟨rfl, h⟩) (fun j b n h => ⟨rfl, h⟩)
    · have hi' : i = st.s.length := by rw [← h.ob.1]; exact hi
      subst hi'
      rw [List.getElem?_append_right (Nat.le_refl _)] at ho'
      simp at ho'
      subst ho'
      exact ho

theorem sim_mm {d t : Nat} (p : Pre n0 gl nt w G ρ lam a st) (hod : o.dst = some d) (hdt : d < nt) (hop : o.op = .makeMap t none)
    (hs : step (AP P gl) gl (.mm d) st K) : o.wp P a w (After n0 gl nt w G ρ K) Q := by
  have hr : (execOp a.eval o).run P w = .ok (.value (.map (some w.heap.size))) { w with heap := w.heap.push (.map #[] 0) } := by
    simp only [execOp, hop, Option.map_none, Instr.makeMap, Sem.run_bind, run_newObj, Result.andThen_ok, Sem.run_pure]
  have hw : Grew w (.map #[] 0) { w with heap := w.heap.push (.map #[] 0) } := ⟨rfl, rfl, rfl⟩
  simp only [step] at hs
  refine wp_value hr (after_mk p.df (put_defers _ _ _) (by rw [put_size]; exact p.sz) _ (ρ ++ [w.heap.size]) lam _ ?_ (hw.good p.rel.lt (L0 := .obj st.s.length) (n0 := 0) (by simp)) pre_app hs)
  rw [hod]
  have hidx : (ρ ++ [w.heap.size])[st.s.length]? = some w.heap.size := by rw [← p.rel.ob.1]; simp
  refine p.rel.newOb hw (Nat.lt_of_lt_of_le hdt p.sz) ⟨#[], 0, hw.new, by rw [newG, upd_self], rfl, by simp⟩ (.map _ _ hidx)

theorem zeroV_run {t : Nat} {x : Val} (h : zeroV P t = some x) : ∃ v, (∀ w : World, (zeroValue t).run P w = .ok v w) ∧ ∀ {w : World} {G : Gh} {ρ : List Nat}, RelA w G ρ v x := by
  unfold zeroV at h
  split at h
  · rename_i zs ag v _ _ hv
    cases hi : P.info? t with
    | none => rw [hi] at hv; simp at hv
    | some i =>
      rw [hi] at hv
      simp only [Option.bind_some] at hv
      split at h
      · rename_i hc
        simp only [Option.some.injEq] at h
        subst h
        exact ⟨v, fun w => zeroValue_run hi hv w, constRel_A hc⟩
      · simp at h
  · simp at h

theorem eqK_self_len {ks : List Nat} {x : D} (h : (eqK ks x.cells x.cells).isSome = true) : x.cells.length = ks.length := by
  obtain ⟨r, hr⟩ := Option.isSome_iff_exists.1 h
  exact (eqK_length hr).1

theorem key_shaped {kt : Nat} {ks : List Nat} {ag : Bool} {u : Value} {k : D} (hag : isStruct P kt = ag) (hu : Rd w G u k) (ha : isAg ag k = true) (hl : k.cells.length = ks.length) : ∃ vs, vs.length = ks.length ∧ shaped P kt vs u := by
  obtain ⟨vs, h1, h2, _⟩ := hu.cells ha
  exact ⟨vs, by rw [h1.length, hl], by unfold shaped; rw [hag]; exact h2⟩

theorem RelT.A_dat {v : Value} {x : D} {L : Loc} (h : RelT w G ρ lam L v (.d x)) : RelA w G ρ v (.d x) := .d _ _ h.dat

theorem sim_lk {d t kt et t1 : Nat} {ag ok : Bool} {ks : List Nat} {x k : Operand} {x' k' : O} {z : Val} (p : Pre n0 gl nt w G ρ lam a st) (hod : o.dst = some d) (hdt : d < nt) (hop : o.op = .lookup t x k ok) (hx : opd P t1 x = some x') (hk : opd P kt k = some k')
    (hu : P.underlying t = some (.map kt et)) (hz : zeroV P et = some z) (hks : kinds P 10 kt = some ks) (hag : isStruct P kt = ag)
    (hs : step (AP P gl) gl (.lk d ag ks x' k' z ok) st K) : o.wp P a w (After n0 gl nt w G ρ K) Q := by
  obtain ⟨L1, h1⟩ := ev_any hx p.rel
  obtain ⟨L2, h2⟩ := ev_any hk p.rel
  obtain ⟨zv, hzr, hzA⟩ := zeroV_run hz
  simp only [step] at hs
  split at hs
  · exact hs.elim
  · rename_i kd hkd
    obtain ⟨hg, hs⟩ := hs
    simp only [Bool.and_eq_true] at hg
    have hkr := h2.toD hkd
    obtain ⟨vs, hvl, hsh⟩ := key_shaped (P := P) hag hkr hg.1 (eqK_self_len hg.2)
    have hchk : ∀ em, (Instr.checkKey em 10000 kt (a.eval k)).run P w = .ok () w := fun em => checkKey_run em 10 10000 kt ks vs _ hks (by decide) hvl hsh
    -- not there
    have hnone : ∀ (es : Array MapEntry), ((a.eval x = .map none ∧ es = #[]) ∨ ∃ r clock, a.eval x = .map (some r) ∧ w.heap[r]? = some (.map es clock)) → (Instr.findKey kt (a.eval k) es.toList).run P w = .ok none w →
        K (st.set d (cond ok (.tuple [frz z, .d (.bool false)]) (frz z))) → o.wp P a w (After n0 gl nt w G ρ K) Q := by
      intro es hes hf hK
      refine p.value hod hdt (v := if ok then .tuple #[zv, .bool false] else zv) ?_ (.of_A ?_) hK
      · rcases hes with ⟨hm, rfl⟩ | ⟨r, clock, hm, hob⟩
        · simp only [execOp, hop, Instr.lookup, Sem.run_bind, underlying_run hu, Result.andThen_ok, hm, Sem.run_pure, hchk, hf, hzr]
        · have hgo : (getObj r).run P w = .ok (.map es clock) w := by simp only [getObj, Sem.run, hob]
          simp only [execOp, hop, Instr.lookup, Sem.run_bind, underlying_run hu, Result.andThen_ok, hm, hgo, Sem.run_pure, hchk, hf, hzr]
      · have hA : RelA w G ρ zv (frz z) := (hzA (w := w) (G := G) (ρ := ρ)).frz
        cases ok with
        | true => exact .tuple [zv, .bool false] _ (.cons _ _ _ _ hA (.cons _ _ _ _ (.d _ _ (.bool false)) .nil))
        | false => exact hA
    split at hs
    · rename_i e1
      rw [e1] at h1
      have h1' := h1.dat
      cases hv1 : a.eval x <;> rw [hv1] at h1' <;> cases h1'
      exact hnone #[] (.inl ⟨hv1, rfl⟩) (by
        have := findKey_run (P := P) (ρ := ρ) hks hag hkr hg.1 (mes := []) (es := []) (r := none) .nil rfl
        exact this) hs
    · rename_i i e1
      rw [e1] at h1
      have h1' : RelA w G ρ (a.eval x) (.map i) := h1
      cases hv1 : a.eval x <;> rw [hv1] at h1' <;> cases h1'
      rename_i b hb
      split at hs
      · rename_i es e2
        have hobj : RelO w G ρ i b (.map es) := by have := p.rel.ob.at hb; rwa [e2] at this
        obtain ⟨mes, clock, m1, m2, m3, m4⟩ := hobj
        have hent := entRel_of m3 m4
        split at hs
        · rename_i hf
          have := findKey_run (P := P) hks hag hkr hg.1 hent hf
          exact hnone mes (.inr ⟨b, clock, hv1, m1⟩) this hs
        · rename_i j hf
          split at hs
          · rename_i e he
            have hfk := findKey_run (P := P) hks hag hkr hg.1 hent hf
            have hjl : j < mes.size := by have := (findK_ge hf).2; omega
            have hmj : mes[j]? = some mes[j] := by simp [hjl]
            have hfa : foundAt mes.toList 0 (some j) = some (j, mes[j].val) := by simp [foundAt, hjl]
            rw [hfa] at hfk
            have hgo : (getObj b).run P w = .ok (.map mes clock) w := by simp only [getObj, Sem.run, m1]
            refine p.value hod hdt (v := if ok then .tuple #[mes[j].val, .bool true] else mes[j].val) ?_ (.of_A ?_) hs
            · simp only [execOp, hop, Instr.lookup, Sem.run_bind, underlying_run hu, Result.andThen_ok, hv1, hgo, Sem.run_pure, hchk, hfk]
            · have hA := (m4 j _ _ hmj he).2
              cases ok with
              | true => exact .tuple [_, .bool true] _ (.cons _ _ _ _ hA (.cons _ _ _ _ (.d _ _ (.bool true)) .nil))
              | false => exact hA
          · exact hs.elim
        · exact hs.elim
      · exact hs.elim
    · exact hs.elim

/-! ### Writing -/

theorem sameBits_cells (n : Nat) : ∀ {ks : List Nat} {xs ys : List D} {us vs : List Value}, eqK ks xs ys = some true → RdL w G us xs → RdL w G vs ys → us.length = vs.length ∧ (us.zip vs).all (fun p => Instr.sameBits n p.1 p.2) = true
  | [], [], [], us, vs, _, h1, h2 => by cases h1; cases h2; exact ⟨rfl, rfl⟩
  | [], [], _ :: _, _, _, h, _, _ => by simp [eqK] at h
  | [], _ :: _, _, _, _, h, _, _ => by simp [eqK] at h
  | _ :: _, [], _, _, _, h, _, _ => by simp [eqK] at h
  | _ :: _, _ :: _, [], _, _, h, _, _ => by simp [eqK] at h
  | k :: ks, x :: xs, y :: ys, us, vs, h, h1, h2 => by
    cases h1 with
    | cons u _ us _ hu hus =>
      cases h2 with
      | cons v _ vs _ hv hvs =>
        have key : eqK ks xs ys = some true ∧ Instr.sameBits n u v = true := by
          unfold eqK at h
          split at h
          · rename_i p q
            cases he : eqK ks xs ys <;> simp [he] at h
            cases hu; cases hv
            obtain ⟨rfl, rfl⟩ := h
            exact ⟨rfl, by cases n <;> simp [Instr.sameBits]⟩
          · rename_i i p j q
            cases hd : decide (i = j) with
            | false => simp [hd] at h
            | true =>
              cases he : eqK ks xs ys <;> simp [hd, he] at h
              cases hu; cases hv
              obtain ⟨rfl, rfl⟩ := h
              have : i = j := by simpa using hd
              exact ⟨rfl, by cases n <;> simp [Instr.sameBits, this]⟩
          · rename_i p q
            cases he : eqK ks xs ys <;> simp [he] at h
            obtain ⟨rfl, rfl⟩ := h
            cases hu with | str s1 _ q1 => cases hv with | str s2 _ q2 =>
              refine ⟨rfl, ?_⟩
              have : s1 = s2 := by
                have h3 := q1.trans q2.symm
                obtain ⟨⟨a⟩⟩ := s1
                obtain ⟨⟨b⟩⟩ := s2
                simp at h3
                rw [h3]
              have hb : (s2 == s2) = true := by rw [beq_toListBytes]; simp
              cases n <;> simp [Instr.sameBits, this, hb]
          · simp at h
        obtain ⟨l1, l2⟩ := sameBits_cells n key.1 hus hvs
        exact ⟨by simp [l1], by simp [key.2, l2]⟩

theorem sameBits_key {ag : Bool} {ks : List Nat} {u v : Value} {x y : D} (hx : Rd w G u x) (hy : Rd w G v y) (a1 : isAg ag x = true) (a2 : isAg ag y = true) (he : eqK ks x.cells y.cells = some true) : Instr.sameBits 10000 v u = true := by
  obtain ⟨us, h1, h2, _⟩ := hx.cells a1
  obtain ⟨vs, h3, h4, _⟩ := hy.cells a2
  have hsym : ∀ {ks : List Nat} {xs ys : List D}, eqK ks xs ys = some true → eqK ks ys xs = some true := by
    intro ks
    induction ks with
    | nil => intro xs ys h; cases xs <;> cases ys <;> simp [eqK] at h ⊢
    | cons k ks ih =>
      intro xs ys h
      cases xs with
      | nil => simp [eqK] at h
      | cons x xs =>
        cases ys with
        | nil => simp [eqK] at h
        | cons y ys =>
          unfold eqK at h
          split at h
          · cases he : eqK ks xs ys <;> simp [he] at h
            obtain ⟨rfl, rfl⟩ := h
            simp [eqK, ih he]
          · rename_i i p j q
            cases hd : decide (i = j) with
            | false => simp [hd] at h
            | true =>
              cases he : eqK ks xs ys <;> simp [hd, he] at h
              obtain ⟨rfl, rfl⟩ := h
              have : i = j := by simpa using hd
              subst this
              simp [eqK, ih he]
          · cases he : eqK ks xs ys <;> simp [he] at h
            obtain ⟨rfl, rfl⟩ := h
            simp [eqK, ih he]
          · simp at h
  cases ag with
  | true =>
    simp only [if_true] at h2 h4
    subst h2; subst h4
    obtain ⟨l1, l2⟩ := sameBits_cells 9999 (hsym he) h3 h1
    have : ∀ n, (vs.zip us).all (fun p => Instr.sameBits n p.1 p.2) = true → vs.length = us.length → Instr.sameBits (n + 1) (.agg ⟨vs⟩) (.agg ⟨us⟩) = true := by
      intro n h5 h6
      simp [Instr.sameBits, h6]
      simpa using h5
    exact this 9999 l2 l1
  | false =>
    simp only [Bool.false_eq_true, if_false] at h2 h4
    subst h2; subst h4
    obtain ⟨_, l2⟩ := sameBits_cells 10000 (hsym he) h3 h1
    simpa using l2

end
end Go.Vm
end

section
/- A map is written. Conditions: none. -/
namespace Go.Vm

section
variable {P : Program} {gl : Nat → List D} {n0 nt : Nat} {a : Act} {w w' : World} {G G' : Gh} {ρ ρ' : List Nat} {lam lam' : Nat → Option Nat} {st st' : St} {K : St → Prop} {o : Oper} {Q : Exit → Act → World → Prop}

/-- One block that is no row of cells is laid anew by its owner. -/
theorem setMap_facts {b i : Nat} {mes : Array MapEntry} {clock : Nat} {ob : Obj} (hG : G b = some (.obj i, 0)) (h : w.heap[b]? = some (.map mes clock)) (hlt : ∀ b L n, G b = some (L, n) → b < w.heap.size) :
    let w1 : World := { w with heap := w.heap.setIfInBounds b ob }
    w1.heap[b]? = some ob ∧ Keeps w G w1 G ∧ (∀ L, L ≠ .obj i → SameL L L w G w1 G) ∧ Good w G w1 G ∧ ∀ b L n, G b = some (L, n) → b < w1.heap.size := by
  have hb : b < w.heap.size := hlt _ _ _ hG
  have hoth : ∀ b', b' ≠ b → (w.heap.setIfInBounds b ob)[b']? = w.heap[b']? := fun b' hne => by rw [Array.getElem?_setIfInBounds_ne (Ne.symm hne)]
  have hk : Keeps w G { w with heap := w.heap.setIfInBounds b ob } G := by
    intro b' off v hc
    have hne : b' ≠ b := by
      rintro rfl
      have := hc.1
      unfold World.cell? at this
      rw [show ((⟨b', off, none⟩ : Addr).block) = b' from rfl, h] at this
      simp at this
    exact ⟨by rw [cell_congr (w := w) (w' := { w with heap := w.heap.setIfInBounds b ob }) (hoth _ hne)]; exact hc.1, hc.2⟩
  refine ⟨?_, hk, ?_, ⟨?_, ?_, ?_, fun _ _ _ h => h, hk, rfl, rfl⟩, ?_⟩
  · simp [hb]
  · intro L hL b' n hb'
    have hne : b' ≠ b := by rintro rfl; rw [hG] at hb'; simp only [Option.some.injEq, Prod.mk.injEq] at hb'; exact hL hb'.1.symm
    exact ⟨hoth _ hne, hb'⟩
  · simp
  · intro b' _ h'
    have hne : b' ≠ b := by
      rintro rfl
      rcases h' with h' | ⟨n, h'⟩ <;> rw [hG] at h' <;> simp at h'
    exact ⟨hoth _ hne, rfl⟩
  · intro b' n hb' hG'; exact absurd (hlt _ _ _ hG') (by simpa using hb')
  · intro b' L n h'; have := hlt _ _ _ h'; simpa using this

theorem sim_mu {t kt et t1 t2 : Nat} {ag : Bool} {ks : List Nat} {x k v : Operand} {x' k' v' : O} (p : Pre n0 gl nt w G ρ lam a st) (hod : o.dst = none) (hop : o.op = .mapUpdate t x k v) (hx : opd P t1 x = some x') (hk : opd P kt k = some k') (hv : opd P t2 v = some v')
    (hu : P.underlying t = some (.map kt et)) (hks : kinds P 10 kt = some ks) (hag : isStruct P kt = ag)
    (hs : step (AP P gl) gl (.mu ag ks x' k' v') st K) : o.wp P a w (After n0 gl nt w G ρ K) Q := by
  obtain ⟨L1, h1⟩ := ev_any hx p.rel
  obtain ⟨L2, h2⟩ := ev_any hk p.rel
  obtain ⟨L3, h3⟩ := ev_any hv p.rel
  simp only [step] at hs
  split at hs
  · rename_i i kd e1 hkd
    rw [e1] at h1
    have h1' : RelA w G ρ (a.eval x) (.map i) := h1
    cases hv1 : a.eval x <;> rw [hv1] at h1' <;> cases h1'
    rename_i b hb
    split at hs
    · rename_i es e2
      split at hs
      · rename_i j hf
        obtain ⟨hg, hs⟩ := hs
        simp only [Bool.and_eq_true] at hg
        obtain ⟨⟨hno, hia⟩, hself⟩ := hg
        have hkr := h2.toD hkd
        obtain ⟨vs, hvl, hsh⟩ := key_shaped (P := P) hag hkr hia (eqK_self_len hself)
        have hchk : ∀ em, (Instr.checkKey em 10000 kt (a.eval k)).run P w = .ok () w := fun em => checkKey_run em 10 10000 kt ks vs _ hks (by decide) hvl hsh
        have hvA : RelA w G ρ (a.eval v) (frz (ev gl st v')) := by
          have := (h3.frz (L' := .res)).of_noL hno
          have h4 := this.frz
          rcases this.cases with h | ⟨sz, d, l, e, _⟩
          · exact h
          · exfalso
            cases hev : ev gl st v' <;> rw [hev] at e <;> simp [frz] at e
            rename_i cs2
            cases hfl : frzL cs2 <;> simp [hfl] at e
        have hobj : RelO w G ρ i b (.map es) := by have := p.rel.ob.at hb; rwa [e2] at this
        obtain ⟨mes, clock, m1, m2, m3, m4⟩ := hobj
        have hent := entRel_of m3 m4
        have hfk := findKey_run (P := P) hks hag hkr hia hent hf
        have hgo : (getObj b).run P w = .ok (.map mes clock) w := by simp only [getObj, Sem.run, m1]
        have hset : ∀ ob, (setObj b ob).run P w = .ok () { w with heap := w.heap.setIfInBounds b ob } := fun ob => by simp only [setObj, Sem.run, m1]
        -- whatever is laid there reads as the machine's
        have fin : ∀ (mes' : Array MapEntry) (clock' : Nat), (execOp a.eval o).run P w = .ok .skip { w with heap := w.heap.setIfInBounds b (.map mes' clock') } → mes'.size = (putK es kd (frz (ev gl st v')) j).length →
            (∀ (q : Nat) (e : MapEntry) (pp : D × Val), mes'[q]? = some e → (putK es kd (frz (ev gl st v')) j)[q]? = some pp → Rd w G e.key pp.1 ∧ RelA w G ρ e.val pp.2) → o.wp P a w (After n0 gl nt w G ρ K) Q := by
          intro mes' clock' hr hsz hall
          obtain ⟨f1, f2, f3, f4, f5⟩ := setMap_facts (ob := .map mes' clock') m2 m1 p.rel.lt
          refine wp_skip' hr (after_mk p.df (put_defers _ _ _) (by rw [put_size]; exact p.sz) G ρ lam _ ?_ f4 (fun _ _ h => h) hs)
          rw [hod]
          refine ⟨fun s => (p.rel.tm s).tr f2 (fun _ _ h => h) (fun _ _ h => h) (f3 _ (by simp)), ?_, p.rel.nb, ⟨by simpa using p.rel.ob.1, ?_⟩, p.rel.gb.tr f2, f5⟩
          · intro s cs' hs'
            obtain ⟨b2, g1, g2⟩ := p.rel.bx s cs' hs'
            exact ⟨b2, g1, RelBox.tr f2 (fun _ _ h => h) (f3 _ (by simp)) (fun j => f3 _ (by simp)) g2⟩
          · intro q b2 ob hq hob
            by_cases hqi : q = i
            · subst hqi
              rw [hb] at hq
              simp only [Option.some.injEq] at hq
              subst hq
              have hlt : q < st.s.length := by
                rcases Nat.lt_or_ge q st.s.length with hl | hl
                · exact hl
                · rw [List.getElem?_eq_none (by simpa using hl)] at hob; simp at hob
              simp only [List.getElem?_set_self hlt, Option.some.injEq] at hob
              subst hob
              exact ⟨mes', clock', f1, m2, hsz, fun q e pp h5 h6 => ⟨(hall q e pp h5 h6).1.keep f2, (hall q e pp h5 h6).2.keep f2 fun _ _ h => h⟩⟩
            · simp only [List.getElem?_set_ne (Ne.symm hqi)] at hob
              exact (p.rel.ob.2 q b2 ob hq hob).tr f2 (fun _ _ h => h) (f3 _ (by simp [hqi])) (fun k => f3 _ (by simp))
        cases j with
        | none =>
          have hfa : foundAt mes.toList 0 none = none := rfl
          rw [hfa] at hfk
          refine fin (mes.push { key := a.eval k, val := a.eval v, born := clock }) (clock + 1) ?_ (by simp [putK, m3]) ?_
          · simp only [execOp, hop, Instr.mapUpdate, Sem.run_bind, underlying_run hu, Result.andThen_ok, hv1, hgo, hchk, hfk, hset, Sem.run_pure]
          · intro q e pp hq hpp
            simp only [putK] at hpp
            rw [Array.getElem?_push] at hq
            split at hq
            · rename_i hqe
              simp only [Option.some.injEq] at hq
              subst hq
              rw [hqe, m3, List.getElem?_append_right (Nat.le_refl _)] at hpp
              simp at hpp
              subst hpp
              exact ⟨hkr, hvA⟩
            · have hlt : q < es.length := by
                rw [← m3]
                rcases Nat.lt_or_ge q mes.size with h | h
                · exact h
                · rw [Array.getElem?_eq_none h] at hq; simp at hq
              rw [List.getElem?_append_left hlt] at hpp
              exact m4 q e pp hq hpp
        | some j =>
          have hjl : j < es.length := by have := (findK_ge hf).2; omega
          have hjm : j < mes.size := by omega
          have hmj : mes[j]? = some mes[j] := by simp [hjm]
          have hfa : foundAt mes.toList 0 (some j) = some (j, mes[j].val) := by simp [foundAt, hjm]
          rw [hfa] at hfk
          have hej : es[j]? = some es[j] := List.getElem?_eq_getElem hjl
          -- the key that stays is the new one: both are one
          have hsame : eqK ks kd.cells es[j].1.cells = some true ∧ isAg ag es[j].1 = true := by
            have key : ∀ (es : List (D × Val)) (i j : Nat), findK ag ks kd es i = some (some j) → ∃ e, es[j - i]? = some e ∧ eqK ks kd.cells e.1.cells = some true ∧ isAg ag e.1 = true := by
              intro es
              induction es with
              | nil => intro i j h; simp [findK] at h
              | cons e es ih =>
                intro i j h
                simp only [findK] at h
                cases hg : isAg ag e.1 with
                | false => simp [hg] at h
                | true =>
                  simp only [hg, cond_true] at h
                  split at h
                  · rename_i hq
                    simp only [Option.some.injEq] at h
                    subst h
                    exact ⟨e, by simp, hq, hg⟩
                  · obtain ⟨e', h1, h2⟩ := ih _ _ h
                    have hge := (findK_ge h).1
                    exact ⟨e', by rw [show j - i = (j - (i + 1)) + 1 by omega, List.getElem?_cons_succ]; exact h1, h2⟩
                  · simp at h
            obtain ⟨e, h4, h5⟩ := key es 0 j hf
            rw [Nat.sub_zero, hej] at h4
            simp only [Option.some.injEq] at h4
            subst h4
            exact h5
          have hsb := sameBits_key hkr (m4 j _ _ hmj hej).1 hia hsame.2 hsame.1
          have hstay : (Instr.keyThatStays (((mes[j]?).map (·.key)).getD (a.eval k)) (a.eval k)).run P w = .ok (a.eval k) w := by
            rw [hmj]
            simp only [Option.map_some, Option.getD_some, Instr.keyThatStays, hsb, if_true, Sem.run_pure]
          refine fin (mes.modify j fun e => { e with key := a.eval k, val := a.eval v }) clock ?_ (by simp [putK, m3]) ?_
          · simp only [execOp, hop, Instr.mapUpdate, Sem.run_bind, underlying_run hu, Result.andThen_ok, hv1, hgo, hchk, hfk, hstay, hset, Sem.run_pure]
          · intro q e pp hq hpp
            simp only [putK] at hpp
            rw [Array.getElem?_modify] at hq
            by_cases hqj : q = j
            · subst hqj
              rw [List.getElem?_set_self hjl] at hpp
              simp only [Option.some.injEq] at hpp
              subst hpp
              rw [if_pos rfl, hmj] at hq
              simp only [Option.map_some, Option.some.injEq] at hq
              subst hq
              exact ⟨hkr, hvA⟩
            · rw [List.getElem?_set_ne (Ne.symm hqj)] at hpp
              rw [if_neg (Ne.symm hqj)] at hq
              exact m4 q e pp hq hpp
      · exact hs.elim
    · exact hs.elim
  · exact hs.elim

end
end Go.Vm
end
