/- Part of a small abstract machine over the kit. Conditions: none. -/
import Derived.Test.YtaobjdbdpdbekaaGreatDoorV1
import Derived.Laws.BytesString
import Derived.Laws.Externs
import Derived.Lib.Bytealg
import Derived.KernelRfl
section
/- Parts of values, literals, functions, strings of bytes, tests against nil. Conditions: none. -/
namespace Go.Vm

section
variable {P : Program} {gl : Nat → List D} {n0 nt : Nat} {a : Act} {w w' : World} {G G' : Gh} {ρ ρ' : List Nat} {lam lam' : Nat → Option Nat} {st st' : St} {K : St → Prop} {o : Oper} {Q : Exit → Act → World → Prop}

theorem sim_fd {d t f n t1 : Nat} {ag : Bool} {x : Operand} {x' : O} {fs : Array Field} {fl : Field} (p : Pre n0 gl nt w G ρ lam a st) (hod : o.dst = some d) (hdt : d < nt) (hop : o.op = .field t x f) (hx : opd P t1 x = some x')
    (hu : P.underlying t = some (.struct fs)) (hf : fs[f]? = some fl) (hz : szOf P fl.type = some n) (hag : aggOf P fl.type = some ag) (hone : ag = false → n = 1)
    (hs : step (AP P gl) gl (.fd d x' fl.offset n ag) st K) : o.wp P a w (After n0 gl nt w G ρ K) Q := by
  obtain ⟨L1, h1⟩ := ev_any hx p.rel
  simp only [step] at hs
  obtain ⟨hg, hs⟩ := hs
  simp only [Bool.and_eq_true] at hg
  obtain ⟨hia, hn⟩ := hg
  have hn := Nat.le_of_ble_eq_true hn
  -- the value is a struct's
  have hagg : ∃ vs, a.eval x = .agg ⟨vs⟩ ∧ RelL w G ρ vs (cellsOf (ev gl st x')) := by
    cases he : ev gl st x' <;> rw [he] at h1 hia <;> simp [isAggV] at hia
    case agg cs =>
      have h1' : RelA w G ρ (a.eval x) (.agg cs) := h1
      cases hv : a.eval x <;> rw [hv] at h1' <;> cases h1'
      rename_i vs h
      exact ⟨vs, rfl, h⟩
    case d y =>
      cases y <;> simp at hia
      have h1' := h1.dat
      cases hv : a.eval x <;> rw [hv] at h1' <;> cases h1'
      rename_i vs h
      exact ⟨vs, rfl, h.toRelL⟩
  obtain ⟨vs, hv, hL⟩ := hagg
  have hl := hL.length
  cases ag with
  | true =>
    refine p.value hod hdt (v := .agg ((⟨vs⟩ : Array Value).extract fl.offset (fl.offset + n))) ?_ (.of_A (x := valOf (cellsOf (ev gl st x')) fl.offset n true) ?_) hs
    · simp only [execOp, hop, hv, Instr.field, Sem.run_bind, underlying_run hu, Result.andThen_ok, hf, asAgg, Sem.run_pure, part, aggOf_run hag, if_true, szOf_run hz]
    · have : (⟨vs⟩ : Array Value).extract fl.offset (fl.offset + n) = ⟨(vs.drop fl.offset).take n⟩ := by
        apply Array.ext'; simp
      rw [this]
      exact frz_agg (LC := fun _ => .res) (by simp [hl]) fun j v y h3 h4 => .of_A (((hL.drop _).take _).get h3 h4)
  | false =>
    obtain rfl := hone rfl
    have hlt : fl.offset < vs.length := by omega
    have hg : (⟨vs⟩ : Array Value)[fl.offset]? = some vs[fl.offset] := by simp [hlt]
    refine p.value hod hdt (v := vs[fl.offset]) ?_ (.of_A (x := valOf (cellsOf (ev gl st x')) fl.offset 1 false) ?_) hs
    · simp only [execOp, hop, hv, Instr.field, Sem.run_bind, underlying_run hu, Result.andThen_ok, hf, asAgg, Sem.run_pure, part, aggOf_run hag, Bool.false_eq_true, if_false, hg]
    · have hx' : (cellsOf (ev gl st x'))[fl.offset]? = some ((cellsOf (ev gl st x')).getD fl.offset .undef) := by rw [List.getD_eq_getElem?_getD, List.getElem?_eq_getElem (by omega)]; rfl
      have hr := hL.get (List.getElem?_eq_getElem hlt) hx'
      exact (RelV.of_A (L := .res) hr).snap

/-! ### Literals of structs -/

theorem putCells_rel : ∀ {us : List Value} {xs : List Val} {off : Nat} {vs : List Value} {cs : List Val}, RelL w G ρ us xs → RelL w G ρ vs cs →
    ∃ vs', RelL w G ρ vs' (putCells cs off xs) ∧ vs' = (us.zipIdx.foldl (fun (c : Array Value) (p : Value × Nat) => c.setIfInBounds (off + p.2) p.1) ⟨vs⟩).toList := by
  intro us
  suffices h : ∀ (us : List Value) (k : Nat) (xs : List Val) (off : Nat) (vs : List Value) (cs : List Val), RelL w G ρ us xs → RelL w G ρ vs cs →
      RelL w G ρ (((us.zipIdx k).foldl (fun (c : Array Value) (p : Value × Nat) => c.setIfInBounds (off + p.2) p.1) ⟨vs⟩).toList) (putCells cs (off + k) xs) from
    fun {xs off vs cs} h1 h2 => ⟨_, by simpa using h us 0 xs off vs cs h1 h2, rfl⟩
  intro us
  induction us with
  | nil => intro k xs off vs cs h1 h2; cases h1; simpa [putCells] using h2
  | cons u us ih =>
    intro k xs off vs cs h1 h2
    cases h1 with
    | cons _ x _ xs hx hxs =>
      simp only [List.zipIdx_cons, List.foldl_cons, putCells]
      have h3 : RelL w G ρ (vs.set (off + k) u) (cs.set (off + k) x) := by
        refine .mk (by simp [h2.length]) fun j v y hv hy => ?_
        by_cases hj : j = off + k
        · subst hj
          have hl : off + k < vs.length := by
            rcases Nat.lt_or_ge (off + k) vs.length with h' | h'
            · exact h'
            · rw [List.getElem?_eq_none (by simpa using h')] at hv; simp at hv
          rw [List.getElem?_set_self hl] at hv
          rw [List.getElem?_set_self (by rw [← h2.length]; exact hl)] at hy
          simp only [Option.some.injEq] at hv hy
          subst hv; subst hy; exact hx
        · rw [List.getElem?_set_ne (Ne.symm hj)] at hv hy
          exact h2.get hv hy
      have h4 := ih (k + 1) xs off (vs.set (off + k) u) (cs.set (off + k) x) hxs h3
      rw [show off + (k + 1) = off + k + 1 by omega] at h4
      have h5 : (⟨vs⟩ : Array Value).setIfInBounds (off + k) u = ⟨vs.set (off + k) u⟩ := by apply Array.ext'; simp
      rw [h5]
      exact h4

theorem putCells_length : ∀ {xs : List Val} {off : Nat} {cs : List Val}, (putCells cs off xs).length = cs.length
  | [], _, _ => rfl
  | x :: xs, off, cs => by simp only [putCells, putCells_length, List.length_set]

/-- The parts of a literal, laid over its cells. -/
theorem fill_run {place : Nat → Option (Nat × Nat)} (p : Pre n0 gl nt w G ρ lam a st) : ∀ {ps : List (Nat × Operand)} {qs : List (Nat × Nat × O)} {cs cs' : List Val} {vs : List Value},
    All2 (fun (q : Nat × Operand) (r : Nat × Nat × O) => place q.1 = some (r.1, r.2.1) ∧ ∃ t, opd P t q.2 = some r.2.2) ps qs → RelL w G ρ vs cs → fillP gl st cs qs = some cs' →
    ∃ vs', Instr.fill place ⟨vs⟩ (ps.map fun q => (q.1, a.eval q.2)) = some ⟨vs'⟩ ∧ RelL w G ρ vs' cs'
  | [], _, cs, cs', vs, h, hr, hf => by
    cases h
    simp only [fillP, Option.some.injEq] at hf
    subst hf
    exact ⟨vs, rfl, hr⟩
  | (i, x) :: ps, _, cs, cs', vs, h, hr, hf => by
    cases h with
    | cons hq h =>
      rename_i r qs
      obtain ⟨off, n, x'⟩ := r
      obtain ⟨hpl, t, hx⟩ := hq
      simp only [fillP] at hf
      cases hg : (Nat.beq (cellsOf (frz (snap (ev gl st x')))).length n && Nat.ble (off + n) cs.length && (cellsOf (frz (snap (ev gl st x')))).all (noL depth)) with
      | false => simp [hg] at hf
      | true =>
        simp only [hg, cond_true] at hf
        simp only [Bool.and_eq_true] at hg
        obtain ⟨⟨hg1, hg2⟩, hg3⟩ := hg
        have hg1 := Nat.eq_of_beq_eq_true hg1
        have hg2 := Nat.le_of_ble_eq_true hg2
        have hT := (ev_snap (L := .res) hx p.rel).frz (L' := .res)
        have hA : RelA w G ρ (a.eval x) (frz (snap (ev gl st x'))) := by
          rcases hT.cases with h | ⟨t', o', b, e, _, _⟩
          · rcases h.cases with h | ⟨sz, d, l, e, _⟩
            · exact h
            · exfalso
              cases hv : ev gl st x' <;> rw [hv] at e <;> simp [snap, frz] at e
              rename_i cs2
              cases hfl : frzL cs2 <;> simp [hfl] at e
          · rw [e] at hg3; simp [cellsOf, noL] at hg3
        have hL := hA.cells hg3
        obtain ⟨vs1, hr1, e1⟩ := putCells_rel (off := off) hL hr
        obtain ⟨vs', h2, h3⟩ := fill_run p h hr1 hf
        refine ⟨vs', ?_, h3⟩
        simp only [List.map_cons, Instr.fill, hpl]
        have hsz : (a.eval x).cells.size = n := by rw [← hg1, ← hL.length, Array.length_toList]
        have hvl : vs.length = cs.length := hr.length
        have hcond : ((a.eval x).cells.size ≠ n || off + (a.eval x).cells.size > (⟨vs⟩ : Array Value).size) = false := by
          simp [hsz]; omega
        rw [if_neg (by rw [hcond]; simp)]
        rw [← h2, e1, ← Array.foldl_toList]
        congr 1
        apply Array.ext'
        simp [Array.toList_zipIdx]

end
end Go.Vm
end

section
/- Literals, function values, tests against nil, bytes and strings. Conditions: none. -/
namespace Go.Vm

section
variable {P : Program} {gl : Nat → List D} {n0 nt : Nat} {a : Act} {w w' : World} {G G' : Gh} {ρ ρ' : List Nat} {lam lam' : Nat → Option Nat} {st st' : St} {K : St → Prop} {o : Oper} {Q : Exit → Act → World → Prop}

theorem mapM_all2 {α β : Type} {f : α → Option β} : ∀ {l : List α} {l' : List β}, l.mapM f = some l' → All2 (fun x y => f x = some y) l l'
  | [], l', h => by simp at h; subst h; exact .nil
  | x :: l, l', h => by
    simp only [List.mapM_cons, Option.bind_eq_bind, Option.pure_def] at h
    cases hx : f x with
    | none => simp [hx] at h
    | some y =>
      cases hl : l.mapM f with
      | none => simp [hx, hl] at h
      | some ys =>
        simp [hx, hl] at h
        subst h
        exact .cons hx (mapM_all2 hl)

theorem mapM_some {α β : Type} {f : α → Option β} : ∀ {l : List α}, (∀ x, x ∈ l → ∃ y, f x = some y) → ∃ l', l.mapM f = some l'
  | [], _ => ⟨[], rfl⟩
  | x :: l, h => by
    obtain ⟨y, hy⟩ := h x (by simp)
    obtain ⟨l', hl⟩ := mapM_some (l := l) fun z hz => h z (by simp [hz])
    exact ⟨y :: l', by simp [hy, hl]⟩

theorem mapM_get {α β : Type} {f : α → Option β} : ∀ {l : List α} {l' : List β} {i : Nat} {x : α}, l.mapM f = some l' → l[i]? = some x → ∃ y, l'[i]? = some y ∧ f x = some y
  | [], _, _, _, _, h => by simp at h
  | z :: l, l', i, x, h, hi => by
    simp only [List.mapM_cons, Option.bind_eq_bind, Option.pure_def] at h
    cases hx : f z with
    | none => simp [hx] at h
    | some y =>
      cases hl : l.mapM f with
      | none => simp [hx, hl] at h
      | some ys =>
        simp [hx, hl] at h
        subst h
        cases i with
        | zero => simp at hi; subst hi; exact ⟨y, rfl, hx⟩
        | succ i =>
          simp at hi
          obtain ⟨y', h1, h2⟩ := mapM_get hl hi
          exact ⟨y', by simpa using h1, h2⟩

theorem All2.imp {α β : Type} {R S : α → β → Prop} (hi : ∀ x y, R x y → S x y) : ∀ {l : List α} {l' : List β}, All2 R l l' → All2 S l l'
  | _, _, .nil => .nil
  | _, _, .cons h t => .cons (hi _ _ h) (t.imp hi)

theorem info_of_underlying {t : Nat} {d : TypeDesc} (h : P.underlying t = some d) : ∃ i, P.info? t = some i := by
  unfold Program.underlying at h
  split at h
  · rename_i i hi; exact ⟨_, hi⟩
  · rename_i i hi; exact ⟨_, hi⟩
  · simp at h

theorem info_of_zeros {n t : Nat} {z : List Val} (h : zerosOf P n t = some z) : ∃ i, P.info? t = some i := by
  cases n with
  | zero => simp [zerosOf] at h
  | succ n =>
    unfold zerosOf at h
    cases hu : P.underlying t with
    | none => simp [hu] at h
    | some d => exact info_of_underlying hu

theorem zerosOf_of_zeros {t : Nat} {z : List Val} (h : zeros P t = some z) : zerosOf P 20 t = some z := by
  unfold zeros at h
  simp only [Option.bind_eq_bind] at h
  cases h1 : zerosOf P 20 t with
  | none => simp [h1] at h
  | some cs =>
    cases h2 : P.info? t with
    | none => simp [h1, h2] at h
    | some i =>
      cases h3 : i.zero with
      | none => simp [h1, h2, h3] at h
      | some v =>
        simp only [h1, h2, h3, Option.bind_some] at h
        split at h
        · exact h
        · simp at h

theorem built_fill {t : Nat} {z : List Val} {i : TypeInfo} {v : Value} (hz : zeros P t = some z) (hi : P.info? t = some i) (hv : i.zero = some v) {ps : List (Nat × Value)} {cs : Array Value}
    (hf : Instr.fill (partOf P t) v.cells ps = some cs) (hst : ∃ d, P.underlying t = some d ∧ d.isRow = true) : P.built t ps = some cs := by
  obtain ⟨d, hu, hd⟩ := hst
  have h20 := zerosOf_of_zeros hz
  cases d with
  | struct fs =>
    have hall : ∃ places, fs.toList.mapM (fun f => (P.info? f.type).map fun i => (f.offset, i.size)) = some places := by
      unfold zerosOf at h20
      simp only [hu] at h20
      cases hm : fs.toList.mapM fun f => zerosOf P 19 f.type with
      | none => simp [hm] at h20
      | some l =>
        refine mapM_some fun f hf => ?_
        obtain ⟨j, hj⟩ := List.getElem?_of_mem hf
        obtain ⟨y, _, hy⟩ := mapM_get hm hj
        obtain ⟨ii, hii⟩ := info_of_zeros hy
        exact ⟨_, by rw [hii]; rfl⟩
    obtain ⟨places, hp⟩ := hall
    unfold Program.built
    simp only [hi, hu, hv, hp]
    have hpl : (fun x => places.toArray[x]?) = partOf P t := by
      funext k
      unfold partOf
      simp only [hu]
      cases hk : fs[k]? with
      | none =>
        have : places.length = fs.toList.length := by
          have := mapM_all2 hp
          clear hp
          generalize fs.toList = l at this
          induction this with
          | nil => rfl
          | cons _ _ ih => simp [ih]
        have hge : fs.size ≤ k := by
          rcases Nat.lt_or_ge k fs.size with h | h
          · simp [h] at hk
          · exact h
        simp [this, hge]
      | some f =>
        have hk' : fs.toList[k]? = some f := by rw [Array.getElem?_toList]; exact hk
        obtain ⟨y, h1, h2⟩ := mapM_get hp hk'
        simp only [List.getElem?_toArray, h1, szOf]
        cases hii : P.info? f.type with
        | none => simp [hii] at h2
        | some ii => simp [hii] at h2; subst h2; simp
    rw [hpl]; exact hf
  | array n e =>
    have hie : ∃ ie, P.info? e = some ie := by
      unfold zerosOf at h20
      simp only [hu] at h20
      cases hm : zerosOf P 19 e with
      | none => simp [hm] at h20
      | some l => exact info_of_zeros hm
    obtain ⟨ie, hie⟩ := hie
    unfold Program.built
    simp only [hi, hu, hv, hie]
    have hpl : (fun x => some (x * ie.size, ie.size)) = partOf P t := by
      funext k
      simp [partOf, hu, szOf, hie]
    rw [hpl]; exact hf
  | _ => simp [TypeDesc.isRow] at hd

theorem sim_bd {d t : Nat} {z : List Val} {ps : Array (Nat × Operand)} {qs : List (Nat × Nat × O)} (p : Pre n0 gl nt w G ρ lam a st) (hod : o.dst = some d) (hdt : d < nt) (hop : o.op = .build t ps) (hz : zeros P t = some z)
    (hst : ∃ d, P.underlying t = some d ∧ d.isRow = true)
    (hq : All2 (fun (q : Nat × Operand) (r : Nat × Nat × O) => partOf P t q.1 = some (r.1, r.2.1) ∧ ∃ t, opd P t q.2 = some r.2.2) ps.toList qs)
    (hs : step (AP P gl) gl (.bd d z qs) st K) : o.wp P a w (After n0 gl nt w G ρ K) Q := by
  obtain ⟨i, v, h1, h2, h3, h4, h5⟩ := zeros_spec hz
  simp only [step] at hs
  split at hs
  · rename_i cs hf
    obtain ⟨vs', e1, e2⟩ := fill_run p hq h5 hf
    have hb : P.built t (ps.map fun q => (q.1, a.eval q.2)).toList = some ⟨vs'⟩ := by
      refine built_fill hz h1 h2 ?_ hst
      rw [Array.toList_map]
      exact e1
    refine p.value hod hdt (v := .agg ⟨vs'⟩) ?_ (.of_A (.agg _ _ e2)) hs
    simp only [execOp, hop, Sem.run_bind, run_build w t _ _ hb, Result.andThen_ok, Sem.run_pure]
  · exact hs.elim

/-! ### Function values -/

theorem args_rel {xs : List Operand} {ys : List O} (p : Pre n0 gl nt w G ρ lam a st) (h : All2 (fun x y => ∃ t, opd P t x = some y) xs ys) (hn : (ys.map fun x => frz (snap (ev gl st x))).all (noL depth) = true) :
    RelL w G ρ (xs.map a.eval) (ys.map fun x => frz (snap (ev gl st x))) := by
  induction h with
  | nil => exact .nil
  | @cons x y xs ys hx _ ih =>
    obtain ⟨t, hx⟩ := hx
    simp only [List.map_cons, List.all_cons, Bool.and_eq_true] at hn ⊢
    refine .cons _ _ _ _ ?_ (ih hn.2)
    have hT := (ev_snap (L := .res) hx p.rel).frz (L' := .res)
    rcases hT.cases with h | ⟨t', o', b, e, _, _⟩
    · rcases h.cases with h | ⟨sz, d, l, e, _⟩
      · exact h
      · exfalso
        cases hv : ev gl st y <;> rw [hv] at e <;> simp [snap, frz] at e
        rename_i cs2
        cases hfl : frzL cs2 <;> simp [hfl] at e
    · rw [e] at hn; simp [noL] at hn

theorem sim_mf {d f : Nat} {xs cs : Array Operand} {ys zs : List O} (p : Pre n0 gl nt w G ρ lam a st) (hod : o.dst = some d) (hdt : d < nt) (hop : o.op = .makeFunc (.func f) xs cs)
    (hx : All2 (fun x y => ∃ t, opd P t x = some y) xs.toList ys) (hc : All2 (fun x y => ∃ t, opd P t x = some y) cs.toList zs)
    (hs : step (AP P gl) gl (.mf d f ys zs) st K) : o.wp P a w (After n0 gl nt w G ρ K) Q := by
  have hr : (execOp a.eval o).run P w = .ok (.value (.func (.func f) (xs.map a.eval) (cs.map a.eval))) w := by
    simp only [execOp, hop, Instr.makeFunc]; rfl
  simp only [step] at hs
  split at hs
  · have e1 : xs = #[] := by cases hl : xs.toList with | nil => exact Array.ext' hl | cons q qs => rw [hl] at hx; cases hx
    have e2 : cs = #[] := by cases hl : cs.toList with | nil => exact Array.ext' hl | cons q qs => rw [hl] at hc; cases hc
    rw [e1, e2, Array.map_empty] at hr
    exact p.value hod hdt hr (.of_A (.d _ _ (.fn f))) hs
  · obtain ⟨hg, hs⟩ := hs
    simp only [Bool.and_eq_true] at hg
    refine p.value hod hdt hr (.of_A ?_) hs
    have h1 := args_rel p hx hg.1
    have h2 := args_rel p hc hg.2
    have e1 : xs.map a.eval = ⟨xs.toList.map a.eval⟩ := by apply Array.ext'; simp
    have e2 : cs.map a.eval = ⟨cs.toList.map a.eval⟩ := by apply Array.ext'; simp
    rw [e1, e2]
    exact .func _ _ _ _ _ h1 h2

/-! ### Tests against nil -/

theorem RelT.listN {v : Value} {x : Val} {sz : Nat} {l : List D} {L : Loc} (h : RelT w G ρ lam L v x) (hl : listN x = some (sz, l)) : ∃ ad n cap, v = .slice ad n cap ∧ (l ≠ [] → ad ≠ none) := by
  unfold Vm.listN at hl
  split at hl
  · rename_i i off len cap sz
    have h' : RelA w G ρ v (.sl i off len cap sz) := h
    cases h'
    exact ⟨_, _, _, rfl, by simp⟩
  all_goals first
    | (simp at hl; done)
    | (simp only [Option.some.injEq, Prod.mk.injEq] at hl
       obtain ⟨rfl, rfl⟩ := hl
       obtain ⟨ad, cap, v1, _, hrest⟩ := (h.listS rfl).slice
       refine ⟨ad, _, cap, v1, fun hne => ?_⟩
       obtain ⟨b, off, vs, rfl, _⟩ := hrest hne
       simp)

theorem sim_nq {d : Nat} {x z : Operand} {x' : O} {t u t1 kd : Nat} {neg : Bool} {desc : TypeDesc} (p : Pre n0 gl nt w G ρ lam a st) (hod : o.dst = some d) (hdt : d < nt)
    (hop : o.op = .binOp (if neg then .neq else .eql) t x z u) (hx : opd P t1 x = some x') (hu : P.underlying t = some desc) (hk : nilKind desc z = some kd)
    (hs : step (AP P gl) gl (.nq d neg kd x') st K) : o.wp P a w (After n0 gl nt w G ρ K) Q := by
  obtain ⟨L1, h1⟩ := ev_any hx p.rel
  have fin : ∀ (b : Bool) (zv : Value), a.eval z = zv → (zv = .slice none 0 0 ∨ zv = .map none ∨ zv = .nilFunc ∨ zv = .pointer none) → (Op.equal t (a.eval x) zv).run P w = .ok b w → (a.eval x).oneCell' = true → a.eval x ≠ .nilIface → (∀ k n, a.eval x ≠ .int k n) → (∀ s, a.eval x ≠ .string s) →
      K (st.set d (.d (.bool (cond neg (!b) b)))) → o.wp P a w (After n0 gl nt w G ρ K) Q := by
    intro b zv hzv hz hb h2 h3 h4 h5 hK
    refine p.value hod hdt (v := .bool (cond neg (!b) b)) ?_ (.of_A (.d _ _ (.bool _))) hK
    have hg := eqGuard_scalar (P := P) (w := w) (op := if neg then .neq else .eql) (t := t) (x := x) (y := z) (v := zv) h2 h3
    have key : binOp .eql t (a.eval x) zv = (Op.equal t (a.eval x) zv >>= fun b => pure (.bool b)) ∧ binOp .neq t (a.eval x) zv = (Op.equal t (a.eval x) zv >>= fun b => pure (.bool (!b))) := by
      rcases hz with rfl | rfl | rfl | rfl <;> (cases hv : a.eval x with
        | int k n => exact absurd hv (h4 k n)
        | string s => exact absurd hv (h5 s)
        | _ => exact ⟨rfl, rfl⟩)
    cases neg
    · simp only [Bool.false_eq_true, if_false] at hop hg
      simp only [execOp, hop, hzv, Sem.run_bind, hg, Result.andThen_ok, key.1, hb, Sem.run_pure, cond_false]
    · simp only [if_true] at hop hg
      simp only [execOp, hop, hzv, Sem.run_bind, hg, Result.andThen_ok, key.2, hb, Sem.run_pure, cond_true]
  have hK0 : ∀ {q : Prop}, (cond neg (!false) false = neg) := fun {_} => by cases neg <;> rfl
  have hK1 : ∀ {q : Prop}, (cond neg (!true) true = !neg) := fun {_} => by cases neg <;> rfl
  unfold nilKind at hk
  split at hk
  · -- slices
    simp only [Option.some.injEq] at hk
    subst hk
    simp only [step] at hs
    have heq : ∀ (ad : Option Addr) (n c : Nat), (Op.equal t (.slice ad n c) (.slice none 0 0)).run P w = .ok ad.isNone w := by
      intro ad n c
      have : ∀ k, (Op.equalIn (k + 1) t (.slice ad n c) (.slice none 0 0)).run P w = .ok ad.isNone w := fun k => by
        cases ad <;> simp [Op.equalIn, underlying_run hu]
      exact this 9999
    split at hs
    · rename_i sz q qs e1
      obtain ⟨ad, n, cap, v1, hrest⟩ := h1.listN e1
      obtain ⟨ad, rfl⟩ := Option.ne_none_iff_exists'.1 (hrest (by simp))
      exact fin false _ rfl (.inl rfl) (by rw [v1]; exact heq _ _ _) (by rw [v1]; rfl) (by rw [v1]; simp) (by rw [v1]; simp) (by rw [v1]; simp) (by rw [hK0 (q := True)]; exact hs)
    · rename_i sz e1
      obtain ⟨ad, n, cap, v1, hrest⟩ := h1.listN e1
      cases hn : ad.isNone with
      | true => exact fin true _ rfl (.inl rfl) (by rw [v1, ← hn]; exact heq _ _ _) (by rw [v1]; rfl) (by rw [v1]; simp) (by rw [v1]; simp) (by rw [v1]; simp) (by rw [hK1 (q := True)]; exact hs.2)
      | false => exact fin false _ rfl (.inl rfl) (by rw [v1, ← hn]; exact heq _ _ _) (by rw [v1]; rfl) (by rw [v1]; simp) (by rw [v1]; simp) (by rw [v1]; simp) (by rw [hK0 (q := True)]; exact hs.1)
    · exact hs.elim
  · simp only [Option.some.injEq] at hk
    subst hk
    simp only [step] at hs
    have heq : ∀ (r : Option Nat), (Op.equal t (.map r) (.map none)).run P w = .ok r.isNone w := by
      intro r
      have : ∀ k, (Op.equalIn (k + 1) t (.map r) (.map none)).run P w = .ok r.isNone w := fun k => by
        cases r <;> simp [Op.equalIn, underlying_run hu]
      exact this 9999
    split at hs
    · rename_i i e1
      rw [e1] at h1
      have h1' : RelA w G ρ (a.eval x) (.map i) := h1
      cases hv1 : a.eval x <;> rw [hv1] at h1' <;> cases h1'
      exact fin false _ rfl (.inr (.inl rfl)) (by rw [hv1]; exact heq _) (by rw [hv1]; rfl) (by rw [hv1]; simp) (by rw [hv1]; simp) (by rw [hv1]; simp) (by rw [hK0 (q := True)]; exact hs)
    · rename_i e1
      rw [e1] at h1
      have h1' := h1.dat
      cases hv1 : a.eval x <;> rw [hv1] at h1' <;> cases h1'
      exact fin true _ rfl (.inr (.inl rfl)) (by rw [hv1]; exact heq _) (by rw [hv1]; rfl) (by rw [hv1]; simp) (by rw [hv1]; simp) (by rw [hv1]; simp) (by rw [hK1 (q := True)]; exact hs)
    · exact hs.elim
  · simp only [Option.some.injEq] at hk
    subst hk
    simp only [step] at hs
    have heq : ∀ (fn : Fn) (b c : Array Value), (Op.equal t (.func fn b c) .nilFunc).run P w = .ok false w := by
      intro fn b c
      have : ∀ k, (Op.equalIn (k + 1) t (.func fn b c) .nilFunc).run P w = .ok false w := fun k => by
        simp [Op.equalIn, underlying_run hu]
      exact this 9999
    have heq' : (Op.equal t .nilFunc .nilFunc).run P w = .ok true w := by
      have : ∀ k, (Op.equalIn (k + 1) t .nilFunc .nilFunc).run P w = .ok true w := fun k => by
        simp [Op.equalIn, underlying_run hu]
      exact this 9999
    split at hs
    · rename_i f ars cs e1
      rw [e1] at h1
      have h1' : RelA w G ρ (a.eval x) (.func f ars cs) := h1
      cases hv1 : a.eval x <;> rw [hv1] at h1' <;> cases h1'
      exact fin false _ rfl (.inr (.inr (.inl rfl))) (by rw [hv1]; exact heq _ _ _) (by rw [hv1]; rfl) (by rw [hv1]; simp) (by rw [hv1]; simp) (by rw [hv1]; simp) (by rw [hK0 (q := True)]; exact hs)
    · rename_i f e1
      rw [e1] at h1
      have h1' := h1.dat
      cases hv1 : a.eval x <;> rw [hv1] at h1' <;> cases h1'
      exact fin false _ rfl (.inr (.inr (.inl rfl))) (by rw [hv1]; exact heq _ _ _) (by rw [hv1]; rfl) (by rw [hv1]; simp) (by rw [hv1]; simp) (by rw [hv1]; simp) (by rw [hK0 (q := True)]; exact hs)
    · rename_i e1
      rw [e1] at h1
      have h1' := h1.dat
      cases hv1 : a.eval x <;> rw [hv1] at h1' <;> cases h1'
      exact fin true _ rfl (.inr (.inr (.inl rfl))) (by rw [hv1]; exact heq') (by rw [hv1]; rfl) (by rw [hv1]; simp) (by rw [hv1]; simp) (by rw [hv1]; simp) (by rw [hK1 (q := True)]; exact hs)
    · exact hs.elim
  · simp only [Option.some.injEq] at hk
    subst hk
    simp only [step] at hs
    have heq : ∀ (r : Option Addr), (Op.equal t (.pointer r) (.pointer none)).run P w = .ok r.isNone w := by
      intro r
      have : ∀ k, (Op.equalIn (k + 1) t (.pointer r) (.pointer none)).run P w = .ok r.isNone w := fun k => by
        cases r <;> simp [Op.equalIn, underlying_run hu]
      exact this 9999
    split at hs
    · rename_i i off e1
      rw [e1] at h1
      have h1' : RelA w G ρ (a.eval x) (.ptr i off) := h1
      cases hv1 : a.eval x <;> rw [hv1] at h1' <;> cases h1'
      exact fin false _ rfl (.inr (.inr (.inr rfl))) (by rw [hv1]; exact heq _) (by rw [hv1]; rfl) (by rw [hv1]; simp) (by rw [hv1]; simp) (by rw [hv1]; simp) (by rw [hK0 (q := True)]; exact hs)
    · rename_i cs off e1
      rw [e1] at h1
      have h1' := h1.dat
      cases hv1 : a.eval x <;> rw [hv1] at h1' <;> cases h1'
      exact fin false _ rfl (.inr (.inr (.inr rfl))) (by rw [hv1]; exact heq _) (by rw [hv1]; rfl) (by rw [hv1]; simp) (by rw [hv1]; simp) (by rw [hv1]; simp) (by rw [hK0 (q := True)]; exact hs)
    · rename_i e1
      rw [e1] at h1
      have h1' := h1.dat
      cases hv1 : a.eval x <;> rw [hv1] at h1' <;> cases h1'
      exact fin true _ rfl (.inr (.inr (.inr rfl))) (by rw [hv1]; exact heq _) (by rw [hv1]; rfl) (by rw [hv1]; simp) (by rw [hv1]; simp) (by rw [hv1]; simp) (by rw [hK1 (q := True)]; exact hs)
    · exact hs.elim
  · simp only [Option.some.injEq] at hk
    subst hk
    simp only [step] at hs
    have hz : a.eval (.const .nilIface) = .nilIface := rfl
    have fin2 : ∀ (b : Bool), (Op.equal t (a.eval x) .nilIface).run P w = .ok b w → (a.eval x = .nilIface ∨ ∃ t v, a.eval x = .iface t v) → K (st.set d (.d (.bool (cond neg (!b) b)))) → o.wp P a w (After n0 gl nt w G ρ K) Q := by
      intro b hb hc hK
      refine p.value hod hdt (v := .bool (cond neg (!b) b)) ?_ (.of_A (.d _ _ (.bool _))) hK
      have hg : (eqGuard (if neg then .neq else .eql) t x (.const .nilIface) (a.eval x) .nilIface).run P w = .ok () w := by
        rcases hc with hc | ⟨t2, v2, hc⟩
        · rw [hc]; cases neg <;> simp [eqGuard]
        · rw [hc]; cases neg <;> rfl
      have key : binOp .eql t (a.eval x) .nilIface = (Op.equal t (a.eval x) .nilIface >>= fun b => pure (.bool b)) ∧ binOp .neq t (a.eval x) .nilIface = (Op.equal t (a.eval x) .nilIface >>= fun b => pure (.bool (!b))) := by
        rcases hc with hc | ⟨t2, v2, hc⟩ <;> rw [hc] <;> exact ⟨rfl, rfl⟩
      cases neg
      · simp only [Bool.false_eq_true, if_false] at hop hg
        simp only [execOp, hop, hz, Sem.run_bind, hg, Result.andThen_ok, key.1, hb, Sem.run_pure, cond_false]
      · simp only [if_true] at hop hg
        simp only [execOp, hop, hz, Sem.run_bind, hg, Result.andThen_ok, key.2, hb, Sem.run_pure, cond_true]
    have e0 : (Op.equal t .nilIface .nilIface).run P w = .ok true w := by
      have : ∀ k, (Op.equalIn (k + 1) t .nilIface .nilIface).run P w = .ok true w := fun k => by simp [Op.equalIn, underlying_run hu]
      exact this 9999
    have e1 : ∀ t2 v2, (Op.equal t (.iface t2 v2) .nilIface).run P w = .ok false w := by
      intro t2 v2
      have : ∀ k, (Op.equalIn (k + 1) t (.iface t2 v2) .nilIface).run P w = .ok false w := fun k => by simp [Op.equalIn, underlying_run hu]
      exact this 9999
    split at hs
    · rename_i t2 x2 ee
      rw [ee] at h1
      have h1' := h1.dat
      generalize hv1 : a.eval x = v1 at h1'
      cases h1'
      exact fin2 false (by rw [hv1]; exact e1 _ _) (.inr ⟨_, _, hv1⟩) (by rw [hK0 (q := True)]; exact hs)
    · rename_i ee
      rw [ee] at h1
      have h1' := h1.dat
      generalize hv1 : a.eval x = v1 at h1'
      cases h1'
      exact fin2 false (by rw [hv1]; exact e1 _ _) (.inr ⟨_, _, hv1⟩) (by rw [hK0 (q := True)]; exact hs)
    · rename_i ee
      rw [ee] at h1
      have h1' := h1.dat
      generalize hv1 : a.eval x = v1 at h1'
      cases h1'
      exact fin2 true (by rw [hv1]; exact e0) (.inl hv1) (by rw [hK1 (q := True)]; exact hs)
    · exact hs.elim
  · simp at hk

end
end Go.Vm
end

section
/- Slices that are made and appended to. Conditions: none. -/
namespace Go.Vm

section
variable {P : Program} {gl : Nat → List D} {n0 nt : Nat} {a : Act} {w w' : World} {G G' : Gh} {ρ ρ' : List Nat} {lam lam' : Nat → Option Nat} {st st' : St} {K : St → Prop} {o : Oper} {Q : Exit → Act → World → Prop}

theorem Rd.cellsL {v : Value} {d : D} (h : Rd w G v d) : RdL w G v.cells.toList d.cells := by
  cases h with
  | agg vs cs h => exact h
  | bool b => exact .cons _ _ _ _ (.bool b) .nil
  | int k n => exact .cons _ _ _ _ (.int k n) .nil
  | str s l h => exact .cons _ _ _ _ (.str s l h) .nil
  | nilp => exact .cons _ _ _ _ .nilp .nil
  | nilm => exact .cons _ _ _ _ .nilm .nil
  | nilf => exact .cons _ _ _ _ .nilf .nil
  | nili => exact .cons _ _ _ _ .nili .nil
  | fn f => exact .cons _ _ _ _ (.fn f) .nil
  | iface t v x h => exact .cons _ _ _ _ (.iface t v x h) .nil
  | list0 a c s => exact .cons _ _ _ _ (.list0 a c s) .nil
  | list b off n cap sz l vs h1 h2 h3 h4 h5 => exact .cons _ _ _ _ (.list b off n cap sz l vs h1 h2 h3 h4 h5) .nil
  | iptr b base off vs cs h1 h2 => exact .cons _ _ _ _ (.iptr b base off vs cs h1 h2) .nil
  | anyi t v => exact .cons _ _ _ _ (.anyi t v) .nil
  | imap b kv vv kl vl ks vs h1 h2 h3 h4 => exact .cons _ _ _ _ (.imap b kv vv kl vl ks vs h1 h2 h3 h4) .nil

/-- Cells in a block that nobody but its owner may write behind 'm'. -/
theorem new_cells {vs us : List Value} {E : TypeId} {fz : Nat × Nat} {L0 : Loc} {m : Nat} (hw : Grew w (.cells ⟨vs ++ us⟩ E fz) w') (hm : vs.length = m) (h1 : ∀ v, v ∈ vs → v.oneCell' = true) : CellsAt w' (newG w G L0 m) w.heap.size 0 vs := by
  intro j v hv
  have hj : j < vs.length := by
    rcases Nat.lt_or_ge j vs.length with h | h
    · exact h
    · rw [List.getElem?_eq_none h] at hv; simp at hv
  refine ⟨?_, ?_, h1 v (List.mem_of_getElem? hv)⟩
  · rw [Nat.zero_add, cell_of_block hw.new]
    rw [List.getElem?_toArray, List.getElem?_append_left hj]; exact hv
  · intro L n hG
    rw [newG, upd_self] at hG
    simp only [Option.some.injEq, Prod.mk.injEq] at hG
    omega

/-- A new slice that a slot holds. -/
theorem new_own {sz d : Nat} {l : List D} {vs us : List Value} {E : TypeId} {fz : Nat × Nat} {cap : Nat} (hw : Grew w (.cells ⟨vs ++ us⟩ E fz) w') (hsz : 0 < sz) (hl : ∀ x, x ∈ l → x.cells.length = sz) (hne : l ≠ [])
    (hr : RdL w G vs (l.flatMap D.cells)) (hcap : l.length ≤ cap) (hc : (vs ++ us).length = cap * sz) (hfz : ∀ j, j < (vs ++ us).length → ¬ (fz.1 ≤ j ∧ j < fz.2)) (h1 : ∀ v, v ∈ vs → v.oneCell' = true) :
    RelV w' (newG w G (.slot d) (l.length * sz)) ρ (.slot d) (.slice (some ⟨w.heap.size, 0, none⟩) l.length cap) (.own sz l) := by
  obtain ⟨x, l, rfl⟩ := List.exists_cons_of_ne_nil hne
  have hlen : vs.length = (x :: l).length * sz := by rw [hr.length]; exact flatMap_len hl
  exact ⟨w.heap.size, 0, cap, ⟨vs ++ us⟩, E, fz, vs, rfl, hcap, hw.new, hfz, by rw [Nat.zero_add]; show cap * sz ≤ (vs ++ us).length; omega, hsz, by rw [newG, upd_self, Nat.zero_add], hl, new_cells hw hlen h1, hr.keep hw.keeps⟩

theorem Rd.oneCell {v : Value} {d : D} (h : Rd w G v d) (h1 : oneD d = true) : v.oneCell' = true := by
  cases h <;> first | rfl | simp [oneD] at h1

theorem one_of_rd {vs : List Value} {l : List D} (h : RdL w G vs (l.flatMap D.cells)) (h1 : ∀ d, d ∈ l → d.cells.all oneD = true) : ∀ v, v ∈ vs → v.oneCell' = true := by
  intro v hv
  obtain ⟨j, hj, rfl⟩ := List.getElem_of_mem hv
  have hj' : j < (l.flatMap D.cells).length := by rw [← h.length]; exact hj
  have hr := h.get (List.getElem?_eq_getElem hj) (List.getElem?_eq_getElem hj')
  have hm := List.getElem_mem hj'
  obtain ⟨d, hd, hm⟩ := List.mem_flatMap.1 hm
  exact hr.oneCell ((List.all_eq_true.1 (h1 d hd)) _ hm)

theorem after_new {L0 : Loc} {m d : Nat} {ob : Obj} {v : Value} {x : Val} {st1 : St} (p : Pre n0 gl nt w G ρ lam a st) (hrel : RelS gl w G ρ lam a.tmps st1) (hw : Grew w ob w') (h0 : L0 ≠ .foreign) (hod : o.dst = some d) (hdt : d < nt)
    (hv : RelT w' (newG w G L0 m) ρ lam (.slot d) v x) (hK : K (st1.set d x)) : After n0 gl nt w G ρ K (a.put o.dst v) w' :=
  after_set (hw.rel (L0 := L0) (n0 := m) p.rel.lt hrel) p.df p.sz hdt (hw.good p.rel.lt h0) (fun _ _ h => h) hod hv hK

/-! ### Literals of slices -/

theorem elems_rel {sz : Nat} (p : Pre n0 gl nt w G ρ lam a st) : ∀ {xs : List Operand} {ys : List O} {l : List D}, All2 (fun x y => ∃ t, opd P t x = some y) xs ys → elems gl st sz ys = some l →
    l.length = xs.length ∧ (∀ x, x ∈ l → x.cells.length = sz) ∧ RdL w G (xs.flatMap fun x => (a.eval x).cells.toList) (l.flatMap D.cells) ∧ (∀ x, x ∈ xs → (a.eval x).cells.size = sz) ∧ (∀ d, d ∈ l → d.cells.all oneD = true)
  | [], _, l, h, he => by
    cases h
    simp only [elems, Option.some.injEq] at he
    subst he
    exact ⟨rfl, by simp, .nil, by simp, by simp⟩
  | x :: xs, _, l, h, he => by
    cases h with
    | cons hx h =>
      rename_i y ys
      obtain ⟨t, hx⟩ := hx
      simp only [elems] at he
      cases h1 : toD (ev gl st y) with
      | none => simp [h1] at he
      | some d =>
        cases h2 : elems gl st sz ys with
        | none => simp [h1, h2] at he
        | some l' =>
          simp only [h1, h2] at he
          cases h30 : (Nat.beq d.cells.length sz && d.cells.all oneD) with
          | false => simp [h30] at he
          | true =>
            simp only [h30, cond_true, Option.some.injEq] at he
            subst he
            simp only [Bool.and_eq_true] at h30
            have h3 := Nat.eq_of_beq_eq_true h30.1
            obtain ⟨L, hT⟩ := ev_any hx p.rel
            have hrd := (hT.toD h1).cellsL
            obtain ⟨e1, e2, e3, e4, e5⟩ := elems_rel p h h2
            refine ⟨by simp [e1], ?_, ?_, ?_, ?_⟩
            · intro z hz
              simp only [List.mem_cons] at hz
              rcases hz with rfl | hz
              · exact h3
              · exact e2 z hz
            · simp only [List.flatMap_cons]
              exact hrd.append e3
            · intro z hz
              simp only [List.mem_cons] at hz
              rcases hz with rfl | hz
              · rw [← Array.length_toList, hrd.length, h3]
              · exact e4 z hz
            · intro z hz
              simp only [List.mem_cons] at hz
              rcases hz with rfl | hz
              · exact h30.2
              · exact e5 z hz

/-- The cells of a literal, element by element. -/
theorem fill_all {sz : Nat} : ∀ (vs : List Value) (i : Nat) (pre rest : List Value), pre.length = i * sz → rest.length = vs.length * sz → (∀ v, v ∈ vs → v.cells.size = sz) →
    Instr.fill (fun i => some (i * sz, sz)) ⟨pre ++ rest⟩ ((List.range' i vs.length).zip vs) = some ⟨pre ++ vs.flatMap fun v => v.cells.toList⟩
  | [], i, pre, rest, _, hr, _ => by
    have : rest = [] := by simpa using hr
    subst this
    rfl
  | v :: vs, i, pre, rest, hp, hr, hs => by
    have hv := hs v (by simp)
    simp only [List.length_cons, List.range'_succ, List.zip_cons_cons, Instr.fill]
    have hrl : sz ≤ rest.length := by rw [hr, List.length_cons, Nat.add_mul]; omega
    have hcond : (v.cells.size ≠ sz || i * sz + v.cells.size > (⟨pre ++ rest⟩ : Array Value).size) = false := by
      simp [hv, hp]; omega
    rw [if_neg (by rw [hcond]; simp)]
    have hput : v.cells.zipIdx.foldl (fun (cs : Array Value) (p : Value × Nat) => cs.setIfInBounds (i * sz + p.2) p.1) ⟨pre ++ rest⟩ = ⟨(pre ++ v.cells.toList) ++ rest.drop sz⟩ := by
      have key : ∀ (us : List Value) (k : Nat) (q r : List Value), q.length = i * sz + k → us.length ≤ r.length →
          ((us.zipIdx k).foldl (fun (cs : Array Value) (p : Value × Nat) => cs.setIfInBounds (i * sz + p.2) p.1) ⟨q ++ r⟩) = ⟨(q ++ us) ++ r.drop us.length⟩ := by
        intro us
        induction us with
        | nil => intro k q r _ _; simp
        | cons u us ih =>
          intro k q r hq hl
          cases r with
          | nil => simp at hl
          | cons y r =>
            simp only [List.zipIdx_cons, List.foldl_cons]
            have h1 : (⟨q ++ y :: r⟩ : Array Value).setIfInBounds (i * sz + k) u = ⟨(q ++ [u]) ++ r⟩ := by
              apply Array.ext'
              simp only [Array.toList_setIfInBounds]
              rw [List.set_append_right _ _ (by omega), hq]
              simp
            rw [h1, ih (k + 1) (q ++ [u]) r (by simp [hq]; omega) (by simpa using hl)]
            simp
      have := key v.cells.toList 0 pre rest (by simpa using hp) (by rw [Array.length_toList, hv]; exact hrl)
      rw [Array.length_toList, hv] at this
      rw [← this, ← Array.foldl_toList, Array.toList_zipIdx]
    rw [hput]
    have := fill_all vs (i + 1) (pre ++ v.cells.toList) (rest.drop sz) (by simp [hp, hv, Nat.add_mul]) (by rw [List.length_drop, hr, List.length_cons, Nat.add_mul]; omega) (fun u hu => hs u (by simp [hu]))
    rw [this]
    simp

theorem sim_li {d t e n len : Nat} {ps : Array (Nat × Operand)} {ys : List O} {z : List Val} (p : Pre n0 gl nt w G ρ lam a st) (hod : o.dst = some d) (hdt : d < nt) (hop : o.op = .buildSlice t len ps)
    (hu : P.underlying t = some (.slice e)) (hn : szOf P e = some n) (hpos : 0 < n) (hz : zeros P e = some z) (hidx : ps.toList.map (·.1) = List.range len) (hbig : len * n ≤ 2 ^ 24)
    (hq : All2 (fun x y => ∃ t, opd P t x = some y) (ps.toList.map (·.2)) ys)
    (hs : step (AP P gl) gl (.li d n ys) st K) : o.wp P a w (After n0 gl nt w G ρ K) Q := by
  obtain ⟨i, zv, h1, h2, h3, h4, h5⟩ := zeros_spec hz
  have hin : i.size = n := by unfold szOf at hn; rw [h1] at hn; simpa using hn
  have hzs : zv.cells.size = n := by omega
  simp only [step] at hs
  split at hs
  · rename_i l hl
    obtain ⟨e1, e2, e3, e4, e5⟩ := elems_rel p hq hl
    have hlen : ps.toList.length = len := by have := congrArg List.length hidx; simpa using this
    have hll : l.length = len := by rw [e1, List.length_map, hlen]
    have hparts : ps.map (fun x => (x.1, a.eval x.2)) = ⟨(List.range' 0 (ps.toList.map fun x => a.eval x.2).length).zip (ps.toList.map fun x => a.eval x.2)⟩ := by
      apply Array.ext'
      rw [Array.toList_map]
      simp only [List.length_map, hlen]
      rw [← List.range_eq_range', ← hidx]
      generalize ps.toList = q
      induction q with
      | nil => rfl
      | cons y ys ih => simp [ih]
    have hfl : ∀ c0 : Array Value, c0.size = len * n → Instr.fill (fun i => some (i * n, n)) c0 (ps.map (fun x => (x.1, a.eval x.2))).toList = some ⟨(ps.toList.map fun x => a.eval x.2).flatMap fun v => v.cells.toList⟩ := by
      intro c0 hc0s
      rw [hparts]
      have := fill_all (sz := n) (ps.toList.map fun x => a.eval x.2) 0 [] c0.toList (by simp) (by simp [hc0s, hlen]) (fun v hv => by
        simp only [List.mem_map] at hv
        obtain ⟨x, hx, rfl⟩ := hv
        exact e4 x.2 (List.mem_map.2 ⟨x, hx, rfl⟩))
      simpa using this
    have hfm : ((ps.toList.map fun x => a.eval x.2).flatMap fun v => v.cells.toList) = (ps.toList.map (·.2)).flatMap fun x => (a.eval x).cells.toList := by
      generalize ps.toList = q
      induction q with
      | nil => rfl
      | cons y ys ih => simp [ih]
    rw [hfm] at hfl
    have hrun : (Instr.buildSlice t len (ps.map fun x => (x.1, a.eval x.2))).run P w = .ok (.slice (some ⟨w.heap.size, 0, none⟩) len len) { w with heap := w.heap.push (.cells ⟨(ps.toList.map (·.2)).flatMap fun x => (a.eval x).cells.toList⟩ e) } := by
      have hnb : ¬ len * n > 2 ^ 24 := by omega
      unfold Instr.buildSlice
      simp only [Sem.run_bind, underlying_run hu, Result.andThen_ok, szOf_run hn, Sem.run_ite, if_neg hnb, Sem.run_pure]
      by_cases h0 : len * n = 0
      · simp only [if_pos h0]
        rw [hfl _ (by simp)]
        simp only [newRow, Sem.run_bind, run_newObj, Result.andThen_ok, Sem.run_pure]
      · simp only [if_neg h0, zeroValue_run h1 h2, Result.andThen_ok]
        rw [hfl _ (by simp)]
        simp only [newRow, Sem.run_bind, run_newObj, Result.andThen_ok, Sem.run_pure]
    have hexec : (execOp a.eval o).run P w = .ok (.value (.slice (some ⟨w.heap.size, 0, none⟩) len len)) { w with heap := w.heap.push (.cells ⟨(ps.toList.map (·.2)).flatMap fun x => (a.eval x).cells.toList⟩ e) } := by
      simp only [execOp, hop, Sem.run_bind, hrun, Result.andThen_ok, Sem.run_pure]
    have hvl : ((ps.toList.map (·.2)).flatMap fun x => (a.eval x).cells.toList).length = len * n := by rw [e3.length, flatMap_len e2, hll]
    have hw : Grew w (.cells ⟨((ps.toList.map (·.2)).flatMap fun x => (a.eval x).cells.toList) ++ []⟩ e) { w with heap := w.heap.push (.cells ⟨(ps.toList.map (·.2)).flatMap fun x => (a.eval x).cells.toList⟩ e) } := ⟨by simp, rfl, rfl⟩
    refine wp_value hexec (after_new (L0 := .slot d) (m := l.length * n) p p.rel hw (by simp) hod hdt (.of_V ?_) hs)
    by_cases hne : l = []
    · subst hne
      simp only [List.length_nil] at hll
      subst hll
      exact .of_A (.nil _ _)
    · have := new_own (ρ := ρ) (d := d) (cap := len) hw hpos e2 hne e3 (by omega) (by simp only [List.append_nil]; exact hvl) (by simp) (one_of_rd e3 e5)
      rw [hll] at this ⊢
      exact this
  · exact hs.elim

end
end Go.Vm
end

section
/- append. Conditions: none. -/
namespace Go.Vm

section
variable {P : Program} {gl : Nat → List D} {n0 nt : Nat} {a : Act} {w w' : World} {G G' : Gh} {ρ ρ' : List Nat} {lam lam' : Nat → Option Nat} {st st' : St} {K : St → Prop} {o : Oper} {Q : Exit → Act → World → Prop}

/-- What lies behind a slice's end is written. -/
theorem own_write {b m : Nat} : ∀ {us : List Value} {k : Nat} {w : World} {c : Array Value} {E : TypeId} {fz : Nat × Nat}, w.heap[b]? = some (.cells c E fz) → m + k + us.length ≤ c.size →
    ∃ c', (w.setCells b (m + k) us).heap[b]? = some (.cells c' E fz) ∧ c'.size = c.size ∧ (∀ j, j < m + k ∨ m + k + us.length ≤ j → c'[j]? = c[j]?) ∧ (∀ j v, us[j]? = some v → c'[m + k + j]? = some v) ∧
      (∀ b', b' ≠ b → (w.setCells b (m + k) us).heap[b']? = w.heap[b']?) ∧ (w.setCells b (m + k) us).heap.size = w.heap.size
  | [], k, w, c, E, fz, h, hl => ⟨c, h, rfl, fun _ _ => rfl, fun j v hv => by simp at hv, fun _ _ => rfl, rfl⟩
  | u :: us, k, w, c, E, fz, h, hl => by
    simp only [List.length_cons] at hl
    have h1 := setCell_at (off := m + k) (u := u) h
    obtain ⟨c', e1, e2, e3, e4, e5, e6⟩ := own_write (b := b) (m := m) (us := us) (k := k + 1) h1 (by simp; omega)
    refine ⟨c', e1, by simpa using e2, ?_, ?_, ?_, ?_⟩
    · intro j hj
      simp only [List.length_cons] at hj
      rw [e3 j (by omega), Array.getElem?_setIfInBounds_ne (by omega)]
    · intro j v hv
      cases j with
      | zero =>
        simp only [List.getElem?_cons_zero, Option.some.injEq] at hv
        subst hv
        rw [e3 (m + k + 0) (by omega), Nat.add_zero, Array.getElem?_setIfInBounds]
        have : m + k < c.size := by omega
        simp [this]
      | succ j =>
        simp only [List.getElem?_cons_succ] at hv
        have := e4 j v hv
        rw [show m + (k + 1) + j = m + k + (j + 1) by omega] at this
        exact this
    · intro b' hb'
      have := e5 b' hb'
      exact this.trans (setCell_old hb')
    · have := e6
      exact this.trans setCell_size

theorem setCells_env {b : Nat} : ∀ {us : List Value} {k : Nat} {w : World}, (w.setCells b k us).os = w.os ∧ (w.setCells b k us).output = w.output
  | [], _, _ => ⟨rfl, rfl⟩
  | u :: us, k, w => by
    have h := setCells_env (b := b) (us := us) (k := k + 1) (w := w.setCell ⟨b, k, none⟩ u)
    exact ⟨h.1.trans rfl, h.2.trans rfl⟩

/-- Where the world's heap is as it was but for cells behind the limit of one owner's block. -/
theorem ext_facts {b m m' : Nat} {L L' : Loc} {c c' : Array Value} {E : TypeId} {fz : Nat × Nat} (hG : G b = some (L, m)) (hm : m ≤ m') (hold : w.heap[b]? = some (.cells c E fz)) (hnew : w'.heap[b]? = some (.cells c' E fz))
    (hkeep : ∀ j, j < m → c'[j]? = c[j]?) (hcs : c.size ≤ c'.size) (hoth : ∀ b', b' ≠ b → w'.heap[b']? = w.heap[b']?) (hsize : w'.heap.size = w.heap.size) (hlt : ∀ b L n, G b = some (L, n) → b < w.heap.size) (hL : L ≠ .foreign) (hL' : L' ≠ .foreign) (hos : w'.os = w.os) (hout : w'.output = w.output) :
    Keeps w G w' (upd G b (some (L', m'))) ∧ (∀ L1, L1 ≠ L → SameL L1 L1 w G w' (upd G b (some (L', m')))) ∧ Good w G w' (upd G b (some (L', m'))) ∧ (∀ b3 L n, upd G b (some (L', m')) b3 = some (L, n) → b3 < w'.heap.size) := by
  have hk : Keeps w G w' (upd G b (some (L', m'))) := by
    refine ⟨?_, fun b2 ks vs h => ?_, fun b2 n h => ?_⟩
    rotate_left 2
    · obtain ⟨c2, E2, fz2, h2, h3⟩ := h
      by_cases hb : b2 = b
      · subst hb
        rw [hold] at h2
        simp only [Option.some.injEq, Obj.cells.injEq] at h2
        obtain ⟨rfl, rfl, rfl⟩ := h2
        exact ⟨c', E, fz, hnew, Nat.le_trans h3 hcs⟩
      · exact ⟨c2, E2, fz2, (hoth _ hb).trans h2, h3⟩
    rotate_left
    · obtain ⟨h1, mes, clock, h2, h3⟩ := h
      have hb : b2 ≠ b := by rintro rfl; rw [hG] at h1; simp at h1
      exact ⟨by rw [upd_ne _ _ hb]; exact h1, mes, clock, (hoth _ hb).trans h2, h3⟩
    intro b2 off v h
    by_cases hb : b2 = b
    · subst hb
      have hoff := h.2.1 _ _ hG
      refine ⟨?_, ?_, h.2.2⟩
      · rw [cell_of_block hnew, hkeep _ hoff, ← cell_of_block hold]; exact h.1
      · intro L2 n2 h2
        rw [upd_self] at h2
        simp only [Option.some.injEq, Prod.mk.injEq] at h2
        omega
    · refine ⟨by rw [cell_congr (hoth _ hb)]; exact h.1, ?_, h.2.2⟩
      intro L2 n2 h2
      rw [upd_ne _ _ hb] at h2
      exact h.2.1 _ _ h2
  have hs : ∀ L1, L1 ≠ L → SameL L1 L1 w G w' (upd G b (some (L', m'))) := by
    intro L1 h1 b2 n h2
    have hb : b2 ≠ b := by rintro rfl; rw [hG] at h2; simp only [Option.some.injEq, Prod.mk.injEq] at h2; exact h1 h2.1.symm
    exact ⟨hoth _ hb, by rw [upd_ne _ _ hb]; exact h2⟩
  refine ⟨hk, hs, ⟨by rw [hsize]; exact Nat.le_refl _, ?_, ?_, ?_, hk, hos, hout⟩, ?_⟩
  · intro b2 hb2 h2
    have hb : b2 ≠ b := by
      rintro rfl
      rcases h2 with h2 | ⟨n, h2⟩
      · rw [hG] at h2; simp at h2
      · rw [hG] at h2; simp only [Option.some.injEq, Prod.mk.injEq] at h2; exact hL h2.1
    exact ⟨hoth _ hb, upd_ne _ _ hb⟩
  · intro b2 n hb2 h2
    by_cases hb : b2 = b
    · subst hb; exact absurd (hlt _ _ _ hG) (Nat.not_lt.2 hb2)
    · rw [upd_ne _ _ hb] at h2; exact absurd (hlt _ _ _ h2) (Nat.not_lt.2 hb2)
  · intro b2 n hb2 h2
    by_cases hb : b2 = b
    · subst hb; rw [upd_self] at h2; simp only [Option.some.injEq, Prod.mk.injEq] at h2; exact absurd h2.1 hL'
    · rwa [upd_ne _ _ hb] at h2
  · intro b2 L2 n h2
    rw [hsize]
    by_cases hb : b2 = b
    · subst hb; exact hlt _ _ _ hG
    · rw [upd_ne _ _ hb] at h2; exact hlt _ _ _ h2

theorem CellsAt.one {b off : Nat} {vs : List Value} (h : CellsAt w G b off vs) : ∀ u, u ∈ vs → u.oneCell' = true := by
  intro u hu
  obtain ⟨j, hj, rfl⟩ := List.getElem_of_mem hu
  exact (h j _ (List.getElem?_eq_getElem hj)).2.2

theorem growBy_le (n : Nat) : ∀ (r c : Nat), c ≤ n + (n + 768) / 4 → Builtin.growBy n r c ≤ n + (n + 768) / 4
  | 0, c, h => h
  | r + 1, c, h => by
    unfold Builtin.growBy
    split
    · exact h
    · refine growBy_le n r _ ?_
      rename_i hc
      have : c + (c + 768) / 4 ≤ n + (n + 768) / 4 := by omega
      exact this

theorem nextslicecap_le {need old : Nat} (h : old < need) : Builtin.nextslicecap need old ≤ 2 * need := by
  unfold Builtin.nextslicecap
  split
  · omega
  · split
    · omega
    · have := growBy_le need 4 old (by omega)
      omega

/-- The elements that are appended, as the source gives them. -/
theorem listOf_src {v : Value} {x : Val} {sz : Nat} {l : List D} {L : Loc} (h : RelT w G ρ lam L v x) (hl : listOf x = some (sz, l)) (hsz : 0 < sz) :
    ∃ us : List Value, (Builtin.lenOf v).run P w = .ok l.length w ∧ (Builtin.firstCells sz l.length v).run P w = .ok ⟨us⟩ w ∧ RdL w G us (l.flatMap D.cells) ∧ (∀ u, u ∈ us → u.oneCell' = true) ∧ (l ≠ [] → ∀ d, d ∈ l → d.cells.length = sz) ∧
      ∀ {w2 : World}, (∀ b off u, Cell w G b off u → w2.cell? ⟨b, off, none⟩ = some u) → (Builtin.firstCells sz l.length v).run P w2 = .ok ⟨us⟩ w2 := by
  by_cases hs : ∃ s, x = .d (.str s)
  · obtain ⟨s, rfl⟩ := hs
    simp only [listOf, Option.some.injEq, Prod.mk.injEq] at hl
    obtain ⟨rfl, rfl⟩ := hl
    obtain ⟨s1, rfl, rfl⟩ := h.str
    have hb : ∀ w2 : World, (Builtin.firstCells 1 (s1.data.toList.map byteD).length (.string s1)).run P w2 = .ok ⟨s1.data.toList.map fun b => .int .u8 b.toNat⟩ w2 := by
      intro w2
      simp only [Builtin.firstCells, List.length_map, Array.length_toList, Sem.run_pure]
      have : (s1.extract 0 s1.data.size).data = s1.data := by
        apply Array.ext'
        rw [Lib.extract_data, List.drop_zero, Nat.sub_zero]
        exact List.take_of_length_le (by rw [Array.length_toList]; exact Nat.le_refl _)
      rw [this]
      congr 1
      apply Array.ext'
      simp
    refine ⟨_, ?_, hb w, ?_, ?_, ?_, fun _ => hb _⟩
    · simp only [Builtin.lenOf, List.length_map, Array.length_toList, Sem.run_pure]; rfl
    · have : (s1.data.toList.map byteD).flatMap D.cells = s1.data.toList.map byteD := by
        generalize s1.data.toList = q
        induction q with
        | nil => rfl
        | cons y ys ih => simp only [List.map_cons, List.flatMap_cons, ih]; rfl
      rw [this]
      generalize s1.data.toList = q
      induction q with
      | nil => exact .nil
      | cons y ys ih => exact .cons _ _ _ _ (.int _ _) ih
    · intro u hu
      simp only [List.mem_map] at hu
      obtain ⟨y, _, rfl⟩ := hu
      rfl
    · intro _ d hd
      simp only [List.mem_map] at hd
      obtain ⟨y, _, rfl⟩ := hd
      rfl
  · have hl' : listS x = some (sz, l) := by
      cases x with
      | d y => cases y <;> first | exact hl | exact absurd ⟨_, rfl⟩ hs | simp [listOf] at hl
      | own => exact hl
      | _ => simp [listOf] at hl
    obtain ⟨ad, cap, rfl, hcap, hrest⟩ := (h.listS hl').slice
    by_cases hne : l = []
    · subst hne
      refine ⟨[], rfl, ?_, .nil, by simp, by simp, fun _ => ?_⟩
      · cases ad with
        | none => rfl
        | some ad => simp only [Builtin.firstCells, List.length_nil, Nat.zero_mul]; rfl
      · cases ad with
        | none => rfl
        | some ad => simp only [Builtin.firstCells, List.length_nil, Nat.zero_mul]; rfl
    · obtain ⟨b, off, vs, rfl, hw, hc, hr⟩ := hrest hne
      have hvl : vs.length = l.length * sz := by rw [hr.length]; exact flatMap_len hw
      have hread : ∀ {w2 : World}, (∀ b off u, Cell w G b off u → w2.cell? ⟨b, off, none⟩ = some u) → (Builtin.firstCells sz l.length (.slice (some ⟨b, off, none⟩) l.length cap)).run P w2 = .ok ⟨vs⟩ w2 := by
        intro w2 h2
        simp only [Builtin.firstCells]
        rw [← hvl]
        exact run_loadCells_list (P := P) w2 ⟨b, off, none⟩ vs (fun j v hv => by rw [Addr.add_mid]; exact h2 _ _ _ (hc j v hv))
      exact ⟨vs, rfl, hread (fun _ _ _ h => h.1), hr, hc.one, fun _ => hw, fun h2 => hread h2⟩

/-- What a source of elements gives. -/
def SrcIs (P : Program) (w : World) (v : Value) (sz k : Nat) (us : List Value) : Prop :=
  (Builtin.lenOf v).run P w = .ok k w ∧ (∀ w2 : World, w2.heap = w.heap → (Builtin.firstCells sz k v).run P w2 = .ok ⟨us⟩ w2) ∧ (∀ u, u ∈ us → u.oneCell' = true) ∧ us.length = k * sz

theorem heap_cell {w2 : World} (h : w2.heap = w.heap) (a : Addr) : w2.cell? a = w.cell? a := by unfold World.cell?; rw [h]

theorem listOf_is {v : Value} {x : Val} {sz : Nat} {l : List D} {L : Loc} (h : RelT w G ρ lam L v x) (hl : listOf x = some (sz, l)) (hsz : 0 < sz) :
    ∃ us : List Value, SrcIs P w v sz l.length us ∧ RdL w G us (l.flatMap D.cells) ∧ ∀ d, d ∈ l → d.cells.length = sz := by
  obtain ⟨us, h1, h2, h3, h4, h5, h6⟩ := listOf_src (P := P) h hl hsz
  have hd : ∀ d, d ∈ l → d.cells.length = sz := by
    intro d hd
    exact h5 (by rintro rfl; simp at hd) d hd
  refine ⟨us, ⟨h1, fun w2 hw => h6 fun b off u hc => ?_, h4, by rw [h3.length]; exact flatMap_len hd⟩, h3, hd⟩
  rw [heap_cell hw]; exact hc.1

/-- A slice of an object. -/
theorem slice_is {i off len _cap sz b : Nat} {v : Value} {cs : List Val} (hv : ∃ cap', v = .slice (some ⟨b, off, none⟩) len cap') (hb : RelBox w G ρ b (.obj i) (.ocell i) cs) (hn : off + len * sz ≤ cs.length) (h1 : ∀ (us : List Value), us.length = len * sz →
      (∀ j v x, us[j]? = some v → ((cs.drop off).take (len * sz))[j]? = some x → RelV w G ρ (.ocell i (off + j)) v x) → ∀ u, u ∈ us → u.oneCell' = true) :
    ∃ us : List Value, SrcIs P w v sz len us ∧ ∀ j v x, us[j]? = some v → ((cs.drop off).take (len * sz))[j]? = some x → RelV w G ρ (.ocell i (off + j)) v x := by
  obtain ⟨cap', rfl⟩ := hv
  obtain ⟨us, e1, e2, e3⟩ := hb.range hn
  refine ⟨us, ⟨rfl, fun w2 hw => ?_, h1 us e1 e3, e1⟩, e3⟩
  simp only [Builtin.firstCells]
  rw [← e1]
  exact run_loadCells_list (P := P) w2 ⟨b, off, none⟩ us (fun j v hv => by rw [Addr.add_mid, heap_cell hw]; exact e2 j v hv)

theorem chunks_cells {sz : Nat} (hsz : 0 < sz) : ∀ (n : Nat) (l : List D), l.length = n * sz → l.all oneD = true → (chunks sz n l).flatMap D.cells = l ∧ (chunks sz n l).length = n ∧ ∀ d, d ∈ chunks sz n l → d.cells.length = sz
  | 0, l, h, _ => by
    have : l = [] := by simpa using h
    subst this; simp [chunks]
  | n + 1, l, h, h1 => by
    have hlen : sz ≤ l.length := by rw [h, Nat.add_mul]; omega
    have hd : (l.drop sz).all oneD = true := by
      rw [List.all_eq_true] at h1 ⊢
      exact fun x hx => h1 x (List.mem_of_mem_drop hx)
    obtain ⟨e1, e2, e3⟩ := chunks_cells hsz n (l.drop sz) (by rw [List.length_drop, h, Nat.add_mul]; omega) hd
    simp only [chunks]
    cases hs : Nat.beq sz 1 with
    | true =>
      obtain rfl : sz = 1 := Nat.eq_of_beq_eq_true hs
      cases l with
      | nil => simp at hlen
      | cons x l =>
        have hx : oneD x = true := by simp at h1; exact h1.1
        have hc : x.cells = [x] := by cases x <;> first | rfl | simp [oneD] at hx
        simp only [cond_true, List.headD_cons, List.flatMap_cons, hc, List.length_cons, List.drop_succ_cons, List.drop_zero] at e1 e2 e3 ⊢
        refine ⟨by rw [e1]; rfl, by rw [e2], ?_⟩
        intro d hd
        rcases List.mem_cons.1 hd with rfl | hd
        · rw [hc]; rfl
        · exact e3 d hd
    | false =>
      simp only [cond_false, List.flatMap_cons, List.length_cons, D.cells]
      refine ⟨by rw [e1, List.take_append_drop], by rw [e2], ?_⟩
      intro d hd
      rcases List.mem_cons.1 hd with rfl | hd
      · simp [hlen]
      · exact e3 d hd

theorem frzL_spec : ∀ {xs : List Val} {ds : List D}, frzL xs = some ds → ds.length = xs.length ∧ ∀ (j : Nat) (x : Val) (d : D), xs[j]? = some x → ds[j]? = some d → frzC x = some d
  | [], ds, h => by simp only [frzL, Option.some.injEq] at h; subst h; exact ⟨rfl, by simp⟩
  | x :: xs, ds, h => by
    simp only [frzL] at h
    split at h
    · rename_i d e1
      split at h
      · rename_i l e2
        simp only [Option.some.injEq] at h
        subst h
        obtain ⟨h1, h2⟩ := frzL_spec e2
        refine ⟨by simp [h1], fun j y z hy hz => ?_⟩
        cases j with
        | zero => simp at hy hz; subst hy; subst hz; exact e1
        | succ j => exact h2 j y z (by simpa using hy) (by simpa using hz)
      · simp at h
    · simp at h

/-- The elements of what is appended. -/
theorem listX_is {v : Value} {x : Val} {sz : Nat} {l : List D} {L : Loc} (hob : RelObs w G ρ st.s) (h : RelT w G ρ lam L v x) (hl : listX st x = some (sz, l)) (hsz : 0 < sz) :
    ∃ us : List Value, SrcIs P w v sz l.length us ∧ RdL w G us (l.flatMap D.cells) ∧ ∀ d, d ∈ l → d.cells.length = sz := by
  unfold listX at hl
  split at hl
  · rename_i i off len cap sz0
    have h' : RelA w G ρ v (.sl i off len cap sz0) := h
    cases h' with
    | sl _ _ _ _ cap' _ b hρ hc hz =>
      have hO := hob.at hρ
      split at hl
      · rename_i cs hcs
        rw [hcs] at hO
        cases hle : Nat.ble (off + len * sz0) cs.length with
        | false => rw [hle] at hl; simp at hl
        | true =>
          rw [hle] at hl
          simp only [cond_true] at hl
          split at hl
          · rename_i ds hf
            cases hall : ds.all oneD with
            | false => rw [hall] at hl; simp at hl
            | true =>
              rw [hall] at hl
              simp only [cond_true, Option.some.injEq, Prod.mk.injEq] at hl
              obtain ⟨rfl, rfl⟩ := hl
              have hle := Nat.le_of_ble_eq_true hle
              obtain ⟨f1, f2⟩ := frzL_spec hf
              have f1' : ds.length = len * sz0 := by rw [f1, List.length_take, List.length_drop]; omega
              obtain ⟨c1, c2, c3⟩ := chunks_cells hsz len ds f1' hall
              have hrd : ∀ (us : List Value), us.length = len * sz0 → (∀ j v x, us[j]? = some v → ((cs.drop off).take (len * sz0))[j]? = some x → RelV w G ρ (.ocell i (off + j)) v x) → RdL w G us ds := fun us hu hr =>
                frzL_rd (LC := fun j => .ocell i (off + j)) (k := 0) (by rw [hu, List.length_take, List.length_drop]; omega) (fun j v x hv hx => by rw [Nat.zero_add]; exact hr j v x hv hx) hf
              obtain ⟨us, s1, s2⟩ := slice_is (P := P) (v := .slice (some ⟨b, off, none⟩) len cap') (len := len) (sz := sz0) (_cap := cap) ⟨_, rfl⟩ hO hle (fun us hu hr u hmem => by
                have := hrd us hu hr
                obtain ⟨j, hj, rfl⟩ := List.getElem_of_mem hmem
                have hj' : j < ds.length := by rw [f1', ← hu]; exact hj
                exact (this.get (List.getElem?_eq_getElem hj) (List.getElem?_eq_getElem hj')).oneCell (List.all_eq_true.1 hall _ (List.getElem_mem hj')))
              refine ⟨us, by rw [c2]; exact s1, ?_, c3⟩
              rw [c1]
              exact hrd us s1.2.2.2 s2
          · simp at hl
      · simp at hl
  · exact listOf_is h hl hsz

/-- The cells of what is appended to an object. -/
theorem srcOf_is {v : Value} {x : Val} {sz k : Nat} {us : List Val} {L : Loc} (hob : RelObs w G ρ st.s) (h : RelT w G ρ lam L v x) (hl : srcOf st x sz = some (us, k)) (hsz : 0 < sz) :
    ∃ vs : List Value, SrcIs P w v sz k vs ∧ RelL w G ρ vs us := by
  unfold srcOf at hl
  split at hl
  · rename_i i off len cap sz0
    have h' : RelA w G ρ v (.sl i off len cap sz0) := h
    cases h' with
    | sl _ _ _ _ cap' _ b hρ hc hz =>
      have hO := hob.at hρ
      split at hl
      · rename_i cs hcs
        rw [hcs] at hO
        cases hle : (Nat.beq sz0 sz && Nat.ble (off + len * sz) cs.length && (((cs.drop off).take (len * sz)).map snap).all cellOk) with
        | false => simp only [hle] at hl; simp at hl
        | true =>
          simp only [hle, cond_true, Option.some.injEq, Prod.mk.injEq] at hl
          obtain ⟨rfl, rfl⟩ := hl
          simp only [Bool.and_eq_true] at hle
          obtain ⟨⟨h1, h2⟩, h3⟩ := hle
          have h2 := Nat.le_of_ble_eq_true h2
          have hA : ∀ (us : List Value), us.length = len * sz → (∀ j v x, us[j]? = some v → ((cs.drop off).take (len * sz))[j]? = some x → RelV w G ρ (.ocell i (off + j)) v x) → RelL w G ρ us (((cs.drop off).take (len * sz)).map snap) := by
            intro us hu hr
            refine .mk (by rw [List.length_map, hu, List.length_take, List.length_drop]; omega) fun j v x hv hx => ?_
            rw [List.getElem?_map, Option.map_eq_some_iff] at hx
            obtain ⟨y, hy, rfl⟩ := hx
            exact (hr j v y hv hy).snap
          obtain ⟨vs, s1, s2⟩ := slice_is (P := P) (v := .slice (some ⟨b, off, none⟩) len cap') (len := len) (sz := sz) (_cap := cap) ⟨_, rfl⟩ hO h2 (fun us hu hr u hmem => by
            have := hA us hu hr
            obtain ⟨j, hj, rfl⟩ := List.getElem_of_mem hmem
            have hj' : j < (((cs.drop off).take (len * sz)).map snap).length := by rw [← this.length]; exact hj
            have hok := List.all_eq_true.1 h3 _ (List.getElem_mem hj')
            simp only [cellOk, Bool.and_eq_true] at hok
            exact oneC_cell (this.get (List.getElem?_eq_getElem hj) (List.getElem?_eq_getElem hj')) hok.1)
          exact ⟨vs, s1, hA vs s1.2.2.2 s2⟩
      · simp at hl
  · split at hl
    · rename_i sz2 l e2
      cases hb : Nat.beq sz2 sz with
      | false => rw [hb] at hl; simp at hl
      | true =>
        rw [hb] at hl
        obtain rfl : sz2 = sz := Nat.eq_of_beq_eq_true hb
        simp only [cond_true, Option.some.injEq, Prod.mk.injEq] at hl
        obtain ⟨rfl, rfl⟩ := hl
        obtain ⟨vs, h1, h2, h3⟩ := listOf_is (P := P) h e2 hsz
        exact ⟨vs, h1, h2.toRelL⟩
    · simp at hl

end
end Go.Vm
end

section
/- append, at an operation. Conditions: none. -/
namespace Go.Vm

section
variable {P : Program} {gl : Nat → List D} {n0 nt : Nat} {a : Act} {w w' : World} {G G' : Gh} {ρ ρ' : List Nat} {lam lam' : Nat → Option Nat} {st st' : St} {K : St → Prop} {o : Oper} {Q : Exit → Act → World → Prop}

def srcDesc : TypeDesc → Bool
  | .slice _ | .string => true
  | _ => false

theorem append_fits {t u e sz ty n m cap : Nat} {d : TypeDesc} {base : Option Addr} {x : Value} {us : List Value} {w1 : World} (ht : P.underlying t = some (.slice e)) (hz : szOf P e = some sz)
    (hu : P.underlying u = some d) (hd : srcDesc d = true)
    (hlen : (Builtin.lenOf x).run P w = .ok m w) (hx : (Builtin.firstCells sz m x).run P w = .ok ⟨us⟩ w) (hle : n + m ≤ cap)
    (hst : match base with | none => w1 = w | some ad => (storeCells (ad.add (n * sz)) us).run P w = .ok () w1) :
    (Builtin.append_ #[t, u] ty #[.slice base n cap, x]).run P w = .ok (.slice base (n + m) cap) w1 := by
  unfold Builtin.append_
  cases d <;> first
    | (simp [srcDesc] at hd; done)
    | (simp only [List.getElem?_toArray, List.getElem?_cons_zero, List.getElem?_cons_succ, Sem.run_bind, underlying_run ht, underlying_run hu, Result.andThen_ok, szOf_run hz, Sem.run_pure, Bool.false_eq_true, if_false, hlen, Sem.run_ite, if_pos hle, Bool.not_false, if_true, hx]
       cases base with
       | none => subst hst; simp only [Sem.run_pure]
       | some ad => simp only [Sem.run_bind, hst, Result.andThen_ok, Sem.run_pure])

theorem append_grows {t u e sz bt ty n m cap : Nat} {d : TypeDesc} {base : Option Addr} {x : Value} {us olds : List Value} {i : TypeInfo} {zv : Value} (ht : P.underlying t = some (.slice e)) (hz : szOf P e = some sz) (hi : P.info? e = some i) (hbt : i.bytes = bt) (hzv : i.zero = some zv)
    (hu : P.underlying u = some d) (hd : srcDesc d = true)
    (hlen : (Builtin.lenOf x).run P w = .ok m w) (hx : ∀ w2 : World, w2.heap = w.heap → (Builtin.firstCells sz m x).run P w2 = .ok ⟨us⟩ w2) (hold : ∀ w2 : World, w2.heap = w.heap → (Builtin.firstCells sz n (.slice base n cap)).run P w2 = .ok ⟨olds⟩ w2)
    (hgt : cap < n + m) (hb : 0 < bt) (hbig : (n + m) * bt ≤ 140737488355328) :
    ∃ cap' w1, (Builtin.append_ #[t, u] ty #[.slice base n cap, x]).run P w = .ok (.slice (some ⟨w.heap.size, 0, none⟩) (n + m) cap') w1 ∧ n + m ≤ cap' ∧
      Grew w (.cells ⟨(olds ++ us) ++ (Builtin.zeroCells zv.cells (cap' - (n + m))).toList⟩ e) w1 := by
  have hnc := nextslicecap_le hgt
  have h48 : ¬ Builtin.nextslicecap (n + m) cap * bt > 2 ^ 48 := by
    have h1 : Builtin.nextslicecap (n + m) cap * bt ≤ 2 * (n + m) * bt := Nat.mul_le_mul_right _ hnc
    have h2 : 2 * (n + m) * bt = 2 * ((n + m) * bt) := Nat.mul_assoc _ _ _
    have h3 : (2 : Nat) ^ 48 = 281474976710656 := by decide
    rw [h3]
    omega
  have hle : ¬ n + m ≤ cap := by omega
  have hti : ∀ w2 : World, (typeInfo e).run P w2 = .ok i w2 := fun w2 => by simp [typeInfo, Sem.run_bind, hi]
  have hov : ¬ (((n + m : Nat) : Int) > IntKind.i64.max ∧ (False ∨ bt = 0)) := by
    rintro ⟨_, h | h⟩
    · exact h
    · omega
  obtain ⟨cap', hcap⟩ : ∃ c, c = Question.cut (.appendCap (n + m) cap e) (w.tape w.drawn (.appendCap (n + m) cap e)) := ⟨_, rfl⟩
  refine ⟨cap', { w with drawn := w.drawn + 1, heap := w.heap.push (.cells ((⟨olds⟩ : Array Value) ++ ⟨us⟩ ++ Builtin.zeroCells zv.cells (cap' - (n + m))) e) }, ?_, ?_, ?_⟩
  rotate_left
  · rw [hcap]; exact Nat.le_add_right _ _
  · refine ⟨?_, rfl, rfl⟩
    show w.heap.push _ = w.heap.push _
    congr 2
    apply Array.ext'
    simp
  · unfold Builtin.append_
    have hx1 := hx { w with drawn := w.drawn + 1 } rfl
    have ho1 := hold { w with drawn := w.drawn + 1 } rfl
    cases d <;> first
      | (simp [srcDesc] at hd; done)
      | (simp only [List.getElem?_toArray, List.getElem?_cons_zero, List.getElem?_cons_succ, Sem.run_bind, underlying_run ht, underlying_run hu, Result.andThen_ok, szOf_run hz, Sem.run_pure, Bool.false_eq_true, if_false, hlen, Sem.run_ite, if_neg hle, Bool.not_false, if_true, hti, hbt, if_neg h48, zeroValue_run hi hzv]
         rw [if_neg hov]
         simp only [run_choose, Question.forced, Bool.false_eq_true, if_false, Result.andThen_ok, run_askRoom, Sem.run_bind, ho1, hx1, newRow, run_newObj, Sem.run_pure]
         rw [← hcap])

end
end Go.Vm
end

section
/- append, at an operation. Conditions: none. -/
namespace Go.Vm

section
variable {P : Program} {gl : Nat → List D} {n0 nt : Nat} {a : Act} {w w' : World} {G G' : Gh} {ρ ρ' : List Nat} {lam lam' : Nat → Option Nat} {st st' : St} {K : St → Prop} {o : Oper} {Q : Exit → Act → World → Prop}

theorem RelS.drop {tmps : Array Value} {s : Nat} (h : RelS gl w G ρ lam tmps st) : RelS gl w G ρ lam tmps (st.set s .undef) where
  tm t := by
    simp only [St.set, upd_eq]
    by_cases ht : t = s
    · simp only [ht, if_true]; exact .of_A (.undef _)
    · simp only [ht, if_false]; exact h.tm t
  bx := h.bx
  nb := h.nb
  ob := h.ob
  gb := h.gb
  lt := h.lt

theorem RdL.nilL {us : List Value} (h : RdL w G us []) : us = [] := by cases h; rfl

/-- Appending to a slice under construction. -/
theorem sim_ap_own {d s t u e sz bt bnd : Nat} {x : Operand} {desc : TypeDesc} {z : List Val} {us : List Value} {l l2 : List D} (p : Pre n0 gl nt w G ρ lam a st) (hod : o.dst = some d) (hdt : d < nt)
    (hop : o.op = .call { callee := .builtin .append, args := #[.tmp s, x], argTypes := #[t, u] }) (ht : P.underlying t = some (.slice e)) (hsz : szOf P e = some sz) (hpos : 0 < sz)
    (hbt : bytesOf P e = some bt) (hb0 : 0 < bt) (hbnd : bnd = 140737488355328 / bt) (hz : zeros P e = some z) (hu : P.underlying u = some desc) (hdesc : srcDesc desc = true)
    (hsrc : SrcIs P w (a.eval x) sz l2.length us) (hus : RdL w G us (l2.flatMap D.cells)) (hl2 : ∀ d, d ∈ l2 → d.cells.length = sz) (hg3 : l.length + l2.length ≤ bnd) (e1 : st.tm s = .own sz l)
    (hs : K ((st.set s .undef).set d (.own sz (l ++ l2)))) : o.wp P a w (After n0 gl nt w G ρ K) Q := by
  obtain ⟨i, zv, hi, hzv, hz1, hz2, _⟩ := zeros_spec hz
  have hib : i.bytes = bt := by unfold bytesOf at hbt; rw [hi] at hbt; simpa using hbt
  have hisz : zv.cells.size = sz := by unfold szOf at hsz; rw [hi] at hsz; simp at hsz; omega
  have hexec : ∀ {v : Value} {w1 : World}, (Builtin.append_ #[t, u] o.type #[a.tmps.getD s undef, a.eval x]).run P w = .ok v w1 → (execOp a.eval o).run P w = .ok (.value v) w1 := by
    intro v w1 h
    have he : a.eval (.tmp s) = a.tmps.getD s undef := rfl
    simp only [execOp, hop, resolve, Sem.run_bind, Sem.run_pure, Result.andThen_ok, invoke, builtin, List.map_toArray, List.map_cons, List.map_nil, he, h]
  have hbig : (l.length + l2.length) * bt ≤ 140737488355328 := by
    have := Nat.mul_le_mul_right bt hg3
    rw [hbnd] at this
    exact Nat.le_trans this (Nat.div_mul_le_self _ _)
  obtain ⟨hlen, hread2, hone, hul⟩ := hsrc
  have hread := hread2 w rfl
  have hTs := p.rel.tm s
  rw [e1] at hTs
  have hVs : RelV w G ρ (.slot s) (a.tmps.getD s undef) (.own sz l) := hTs
  by_cases hnil : l2 = []
  · -- nothing is appended: the slice itself
    subst hnil
    have hus0 : us = [] := hus.nilL
    subst hus0
    have hval : ∃ ad n c, a.tmps.getD s undef = .slice ad n c ∧ n = l.length ∧ n ≤ c := by
      rcases hVs.cases with hA | ⟨_, _, _, _, hO⟩
      · cases hv : a.tmps.getD s undef <;> rw [hv] at hA <;> cases hA
        exact ⟨_, _, _, rfl, rfl, Nat.le_refl _⟩
      · simp only [Val.own.injEq] at *
        rename_i h3; obtain ⟨rfl, rfl⟩ := h3
        obtain ⟨b, off, cap, c, E, fz, vs, h1, h2, _⟩ := hO
        exact ⟨_, _, _, h1, rfl, h2⟩
    obtain ⟨ad, n, c, hv, hn, hc⟩ := hval
    have hrun := append_fits (P := P) (ty := o.type) (n := n) (m := 0) (cap := c) (base := ad) (w1 := w) ht hsz hu hdesc hlen hread (by omega) (by cases ad <;> rfl)
    rw [Nat.add_zero, ← hv] at hrun
    rw [List.append_nil, ← e1] at hs
    have hrun' := hexec hrun
    exact wp_value hrun' (after_take p.rel p.df p.sz hdt (Good.refl p.rel.lt) (fun _ _ h => h) hod hs)
  · have hm : 0 < l2.length := List.length_pos_iff.2 hnil
    -- a new block takes all
    have grow : ∀ (ad : Option Addr) (cap : Nat) (olds : List Value), a.tmps.getD s undef = .slice ad l.length cap → (∀ w2 : World, w2.heap = w.heap → (Builtin.firstCells sz l.length (.slice ad l.length cap)).run P w2 = .ok ⟨olds⟩ w2) →
        RdL w G olds (l.flatMap D.cells) → (∀ u, u ∈ olds → u.oneCell' = true) → (∀ d, d ∈ l → d.cells.length = sz) → cap < l.length + l2.length → o.wp P a w (After n0 gl nt w G ρ K) Q := by
      intro ad cap olds hv hold holds ho1 hl hlt
      have hcellsame : ∀ w2 : World, w2.heap = w.heap → ∀ b off u, Cell w G b off u → w2.cell? ⟨b, off, none⟩ = some u := by
        intro w2 h2 b off u h3
        have := cell_congr (w := w) (w' := w2) (b := b) (off := off) (by rw [h2])
        rw [this]; exact h3.1
      obtain ⟨cap', w1, hrun, hcap', hgrew⟩ := append_grows (P := P) (ty := o.type) (base := ad) (x := a.eval x) ht hsz hi hib hzv hu hdesc hlen hread2 hold hlt hb0 hbig
      rw [← hv] at hrun
      have hall : ∀ d, d ∈ l ++ l2 → d.cells.length = sz := by
        intro d hd
        rcases List.mem_append.1 hd with h | h
        · exact hl d h
        · exact hl2 d h
      have hlen2 : (l ++ l2).length = l.length + l2.length := by simp
      have hzc : (Builtin.zeroCells zv.cells (cap' - (l.length + l2.length))).toList.length = (cap' - (l.length + l2.length)) * sz := by
        simp [Builtin.zeroCells, hisz]
      have hol : olds.length = l.length * sz := by rw [holds.length]; exact flatMap_len hl
      refine wp_value (hexec hrun) (after_new (L0 := .slot d) (m := (l ++ l2).length * sz) p p.rel.drop hgrew (by simp) hod hdt (.of_V ?_) hs)
      have := new_own (ρ := ρ) (d := d) (cap := cap') hgrew hpos hall (by simp [hnil]) (by rw [List.flatMap_append]; exact holds.append hus) (by rw [hlen2]; exact hcap')
        (by
          rw [List.length_append, List.length_append, hol, hul, hzc, ← Nat.add_mul, ← Nat.add_mul]
          congr 1; omega)
        (by simp) (fun v hv => by
          rcases List.mem_append.1 hv with h | h
          · exact ho1 v h
          · exact hone v h)
      rw [hlen2] at this ⊢
      exact this
    rcases hVs.cases with hA | ⟨sz3, q, l3, heq, hO⟩
    · have : l = [] ∧ ∃ ad, a.tmps.getD s undef = .slice ad 0 0 := by
        cases hv : a.tmps.getD s undef <;> rw [hv] at hA <;> cases hA
        exact ⟨rfl, _, rfl⟩
      obtain ⟨rfl, ad, hv⟩ := this
      refine grow ad 0 [] hv (fun w2 _ => ?_) .nil (by simp) (by simp) (by simpa using hm)
      cases ad with
      | none => rfl
      | some ad => simp only [Builtin.firstCells, List.length_nil, Nat.zero_mul]; rfl
    · simp only [Val.own.injEq] at heq
      obtain ⟨rfl, rfl⟩ := heq
      obtain ⟨b, off, cap, c, E, fz, vs, h1, h2, h3, h4, h5, h6, h7, h8, h9, h10⟩ := hO
      have hvl : vs.length = (q :: l3).length * sz := by rw [h10.length]; exact flatMap_len h8
      by_cases hfit : (q :: l3).length + l2.length ≤ cap
      · -- it fits: what lies behind the end is written
        have hspace : off + (q :: l3).length * sz + 0 + us.length ≤ c.size := by
          rw [hul]
          have : ((q :: l3).length + l2.length) * sz ≤ cap * sz := Nat.mul_le_mul_right _ hfit
          rw [Nat.add_mul] at this
          omega
        obtain ⟨c', w1a, w1b, w1c, w1d, w1e, w1f⟩ := own_write (b := b) (m := off + (q :: l3).length * sz) (us := us) (k := 0) h3 hspace
        rw [Nat.add_zero] at w1a w1c w1d w1e w1f
        obtain ⟨hk, hsame, hgood, hltn⟩ := ext_facts (w := w) (L' := .slot d) (m' := off + ((q :: l3).length + l2.length) * sz) h7 (by rw [Nat.add_mul]; omega) h3 w1a (fun j hj => w1c j (by omega)) (Nat.le_of_eq w1b.symm) w1e w1f p.rel.lt (by simp) (by simp) setCells_env.1 setCells_env.2
        have hstore := run_storeCells_cells (P := P) b (off + (q :: l3).length * sz) us 0 w
          (fun j hj => by
            rw [Nat.add_zero, cell_of_block h3]
            have : off + (q :: l3).length * sz + j < c.size := by omega
            rw [Array.getElem?_eq_getElem this]; rfl)
          (fun j hj => by
            rw [Nat.add_zero, frozen_of_block h3]
            have : off + (q :: l3).length * sz + j < c.size := by omega
            have := h4 _ this
            simp only [Bool.and_eq_false_imp, decide_eq_true_eq, decide_eq_false_iff_not]
            exact fun e1 e2 => this ⟨e1, e2⟩)
          hone
        rw [Nat.add_zero] at hstore
        have hrun := append_fits (P := P) (ty := o.type) (n := (q :: l3).length) (m := l2.length) (cap := cap) (base := some ⟨b, off, none⟩) (w1 := w.setCells b (off + (q :: l3).length * sz) us) ht hsz hu hdesc hlen hread hfit
          (show (storeCells ((⟨b, off, none⟩ : Addr).add _) us).run P w = _ by rw [Addr.add_mid]; exact hstore)
        rw [← h1] at hrun
        refine wp_value (hexec hrun) ?_
        have hrel : RelS gl (w.setCells b (off + (q :: l3).length * sz) us) (upd G b (some (.slot d, off + ((q :: l3).length + l2.length) * sz))) ρ lam a.tmps (st.set s .undef) := by
          refine ⟨fun t => ?_, ?_, p.rel.nb, p.rel.ob.tr hk (fun _ => hsame _ (by simp)) (fun _ _ => hsame _ (by simp)), p.rel.gb.tr hk, hltn⟩
          · simp only [St.set, upd_eq]
            by_cases hts : t = s
            · simp only [hts, if_true]; exact .of_A (.undef _)
            · simp only [hts, if_false]
              exact (p.rel.tm t).tr hk (fun _ _ h => h) (fun _ _ h => h) (hsame _ (by simp [hts]))
          · intro t cs hb
            obtain ⟨b2, g1, g2⟩ := p.rel.bx t cs hb
            exact ⟨b2, g1, RelBox.tr hk (fun _ _ h => h) (hsame _ (by simp)) (fun j => hsame _ (by simp)) g2⟩
        refine after_set hrel p.df p.sz hdt hgood (fun _ _ h => h) hod (.of_V ?_) hs
        have hll : (q :: l3 ++ l2).length = (q :: l3).length + l2.length := List.length_append
        refine ⟨b, off, cap, c', E, fz, vs ++ us, by rw [← hll]; rfl, by rw [← hll] at hfit; exact hfit, w1a, by rw [w1b]; exact h4, by rw [w1b]; exact h5, h6, ?_, ?_, ?_, ?_⟩
        · rw [upd_self, ← hll]; rfl
        · intro d hd
          rcases List.mem_append.1 (show d ∈ (q :: l3) ++ l2 from hd) with h | h
          · exact h8 d h
          · exact hl2 d h
        · intro j v hv
          rcases Nat.lt_or_ge j vs.length with hj | hj
          · rw [List.getElem?_append_left hj] at hv
            exact hk.1 _ _ _ (h9 j v hv)
          · rw [List.getElem?_append_right hj] at hv
            have hj2 : j - vs.length < us.length := by
              rcases Nat.lt_or_ge (j - vs.length) us.length with h | h
              · exact h
              · rw [List.getElem?_eq_none h] at hv; simp at hv
            refine ⟨?_, ?_, hone v (List.mem_of_getElem? hv)⟩
            · rw [cell_of_block w1a]
              have := w1d (j - vs.length) v hv
              rw [show off + (q :: l3).length * sz + (j - vs.length) = off + j by omega] at this
              exact this
            · intro L2 n hG
              rw [upd_self] at hG
              simp only [Option.some.injEq, Prod.mk.injEq] at hG
              have : ((q :: l3).length + l2.length) * sz = (q :: l3).length * sz + l2.length * sz := Nat.add_mul _ _ _
              omega
        · have := (h10.keep hk).append (hus.keep hk)
          rw [← List.flatMap_append] at this
          exact this
      · refine grow (some ⟨b, off, none⟩) cap vs h1 (fun w2 hw => ?_) h10 h9.one h8 (by omega)
        simp only [Builtin.firstCells]
        rw [← hvl]
        exact run_loadCells_list (P := P) w2 ⟨b, off, none⟩ vs (fun j v hv => by
          rw [Addr.add_mid, cell_congr (w := w) (w' := w2) (by rw [hw])]; exact (h9 j v hv).1)

end
end Go.Vm
end

section
/- Strings and bytes; maps. Conditions: none. -/
namespace Go.Vm

section
variable {P : Program} {gl : Nat → List D} {n0 nt : Nat} {a : Act} {w w' : World} {G G' : Gh} {ρ ρ' : List Nat} {lam lam' : Nat → Option Nat} {st st' : St} {K : St → Prop} {o : Oper} {Q : Exit → Act → World → Prop}

theorem sim_sb {d s t e t1 : Nat} {x : Operand} {x' : O} (p : Pre n0 gl nt w G ρ lam a st) (hod : o.dst = some d) (hdt : d < nt) (hop : o.op = .convert s t x) (hx : opd P t1 x = some x')
    (hu1 : P.underlying s = some .string) (hu2 : P.underlying t = some (.slice e)) (hu3 : P.underlying e = some (.int .u8))
    (hs : step (AP P gl) gl (.sb d x') st K) : o.wp P a w (After n0 gl nt w G ρ K) Q := by
  obtain ⟨L1, h1⟩ := ev_any hx p.rel
  simp only [step] at hs
  split at hs
  · rename_i q e1
    rw [e1] at h1
    obtain ⟨s1, v1, rfl⟩ := h1.str
    obtain ⟨cap, hcap⟩ : ∃ c, c = Question.cut (.appendCap s1.size 0 e) (w.tape w.drawn (.appendCap s1.size 0 e)) := ⟨_, rfl⟩
    have hle : s1.size ≤ cap := by rw [hcap]; exact Nat.le_add_right _ _
    let els : Array Value := s1.data.map fun b => .int .u8 b.toNat
    let ob : Obj := .cells (els ++ Array.replicate (cap - s1.size) (Value.int .u8 0)) e (cap, cap + 1)
    have hsz : (els ++ Array.replicate (cap - s1.size) (Value.int .u8 0)).size = cap := by
      simp only [els, Array.size_append, Array.size_map, Array.size_replicate]
      show s1.size + (cap - s1.size) = cap
      omega
    have hr : (execOp a.eval o).run P w = .ok (.value (.slice (some ⟨w.heap.size, 0, none⟩) s1.size cap)) { w with drawn := w.drawn + 1, heap := w.heap.push ob } := by
      simp only [execOp, hop, v1, convert, Sem.run_bind, underlying_run hu1, underlying_run hu2, underlying_run hu3, Result.andThen_ok, Conv.stringToBytes, run_choose, Question.forced, Bool.false_eq_true, if_false, newRow, run_newObj, Sem.run_pure, markStringish, run_shape]
      rw [← hcap]
      have hshape : (World.shape? { w with drawn := w.drawn + 1, heap := w.heap.push (.cells (els ++ Array.replicate (cap - s1.size) (.int .u8 0)) e (0, 0)) } w.heap.size) = some (e, cap) := by
        unfold World.shape?
        simp only [Array.getElem?_push_size]
        rw [hsz]
      simp only [els] at hshape
      simp only [hshape, Result.andThen_ok, run_freeze]
      congr 1
      unfold World.freeze
      simp only [Nat.one_ne_zero, if_false]
      congr 1
      apply Array.ext
      · simp
      · intro i h1 h2
        simp only [Array.getElem_modify]
        split
        · rename_i hi
          subst hi
          simp [ob, els]
        · rename_i hi
          have hlt : i < w.heap.size := by simp at h1; omega
          simp [Array.getElem_push, hlt]
    have hcl : (els ++ Array.replicate (cap - s1.size) (Value.int .u8 0)) = ⟨(s1.data.toList.map fun b => Value.int .u8 b.toNat) ++ (List.replicate (cap - s1.size) (.int .u8 0))⟩ := by
      apply Array.ext'; simp [els]
    have hw : Grew w (.cells ⟨(s1.data.toList.map fun b => Value.int .u8 b.toNat) ++ (List.replicate (cap - s1.size) (.int .u8 0))⟩ e (cap, cap + 1)) { w with drawn := w.drawn + 1, heap := w.heap.push ob } := ⟨by
      show w.heap.push ob = _
      simp only [ob, hcl], rfl, rfl⟩
    refine wp_value hr (after_new (L0 := .res) (m := s1.size) p p.rel hw (by simp) hod hdt (.of_A (.d _ _ ?_)) hs)
    have hfl : (s1.data.toList.map byteD).flatMap D.cells = s1.data.toList.map byteD := by
      generalize s1.data.toList = q
      induction q with
      | nil => rfl
      | cons y ys ih => simp only [List.map_cons, List.flatMap_cons, ih]; rfl
    refine .list w.heap.size 0 _ cap 1 _ (s1.data.toList.map fun b => Value.int .u8 b.toNat) (by simp) hle ?_ ?_ ?_
    · intro d hd
      simp only [List.mem_map] at hd
      obtain ⟨y, _, rfl⟩ := hd
      rfl
    · exact new_cells hw (by simp) (by
        intro v hv
        simp only [List.mem_map] at hv
        obtain ⟨y, _, rfl⟩ := hv
        rfl)
    · rw [hfl]
      generalize s1.data.toList = q
      induction q with
      | nil => exact .nil
      | cons y ys ih => exact .cons _ _ _ _ (.int _ _) ih
  · exact hs.elim

theorem bytesOf_rel : ∀ {l : List D} {s : List UInt8} {vs : List Value}, unbytes l = some s → RdL w G vs (l.flatMap D.cells) → ∃ ns : List Int, vs = ns.map (Value.int .u8) ∧ ns.map (fun n => UInt8.ofNat n.toNat) = s ∧ ns.length = l.length
  | [], s, vs, h, hr => by
    simp only [unbytes, Option.some.injEq] at h
    subst h
    cases hr
    exact ⟨[], rfl, rfl, rfl⟩
  | x :: l, s, vs, h, hr => by
    cases x <;> first | (simp only [unbytes, reduceCtorEq] at h; done) | skip
    rename_i k n
    cases k <;> first | (simp only [unbytes, reduceCtorEq] at h; done) | skip
    simp only [unbytes] at h
    cases hb : unbytes l with
    | none => simp [hb] at h
    | some s' =>
      simp only [hb, Option.some.injEq] at h
      subst h
      have hr' : RdL w G vs (.int .u8 n :: l.flatMap D.cells) := hr
      cases hr' with
      | cons v _ vs' _ h1 h2 =>
        cases h1
        obtain ⟨ns, rfl, rfl, h5⟩ := bytesOf_rel hb h2
        exact ⟨n :: ns, rfl, rfl, by simp [h5]⟩

theorem sim_bs {d s t e t1 : Nat} {x : Operand} {x' : O} (p : Pre n0 gl nt w G ρ lam a st) (hod : o.dst = some d) (hdt : d < nt) (hop : o.op = .convert s t x) (hx : opd P t1 x = some x')
    (hu1 : P.underlying s = some (.slice e)) (hu2 : P.underlying t = some .string) (hu3 : P.underlying e = some (.int .u8))
    (hs : step (AP P gl) gl (.bs d x') st K) : o.wp P a w (After n0 gl nt w G ρ K) Q := by
  obtain ⟨L1, h1⟩ := ev_any hx p.rel
  simp only [step] at hs
  split at hs
  · rename_i sz l e1
    split at hs
    · rename_i q hq
      obtain ⟨ad, cap, v1, hcap, hrest⟩ := (h1.listS e1).slice
      have hconv := run_convert_bytes_string (P := P) w s t e ad l.length cap hu1 hu3 hu2
      by_cases hne : l = []
      · subst hne
        simp only [unbytes, Option.some.injEq] at hq
        subst hq
        have hb : (Conv.bytesToString (.slice ad 0 cap)).run P w = .ok (.string .empty) w := by
          cases ad with
          | none => rfl
          | some ad => rfl
        refine p.value hod hdt (v := .string .empty) ?_ (.of_A (.d _ _ (.str _ _ rfl))) hs
        simp only [List.length_nil] at hconv v1
        simp only [execOp, hop, v1, Sem.run_bind, hconv, hb, Result.andThen_ok, Sem.run_pure]
      · obtain ⟨b, off, vs, rfl, hw, hc, hr⟩ := hrest hne
        obtain ⟨ns, rfl, rfl, hlen⟩ := bytesOf_rel hq hr
        have hload : (loadCells ⟨b, off, none⟩ l.length).run P w = .ok (ns.map (Value.int .u8)).toArray w := by
          have := run_loadCells_list (P := P) w ⟨b, off, none⟩ (ns.map (Value.int .u8)) (fun j v hv => by rw [Addr.add_mid]; exact (hc j v hv).1)
          rw [List.length_map, hlen] at this
          exact this
        have hb := run_bytesToString (P := P) w ⟨b, off, none⟩ l.length cap ns hload
        refine p.value hod hdt (v := .string (ns.foldl (fun r n => r.push (UInt8.ofNat n.toNat)) ByteArray.empty)) ?_ (.of_A (.d _ _ (.str _ _ ?_))) hs
        · simp only [execOp, hop, v1, Sem.run_bind, hconv, hb, Result.andThen_ok, Sem.run_pure]
        · have : ∀ (ns : List Int) (r : ByteArray), (ns.foldl (fun r n => r.push (UInt8.ofNat n.toNat)) r).data.toList = r.data.toList ++ ns.map (fun n => UInt8.ofNat n.toNat) := by
            intro ns
            induction ns with
            | nil => intro r; simp
            | cons n ns ih =>
              intro r
              rw [List.foldl_cons, ih]
              simp [ByteArray.push]
          rw [this]; rfl
    · exact hs.elim
  · exact hs.elim

end
end Go.Vm
end

section
/- Maps. Conditions: none. -/
namespace Go.Vm

section
variable {P : Program} {gl : Nat → List D} {n0 nt : Nat} {a : Act} {w w' : World} {G G' : Gh} {ρ ρ' : List Nat} {lam lam' : Nat → Option Nat} {st st' : St} {K : St → Prop} {o : Oper} {Q : Exit → Act → World → Prop}

/-! ### May a value be a key? -/

theorem checkFields_run (n m : Nat) (em : Bool) (ih : ∀ (t : Nat) (ks : List Nat) (vs : List Value) (v : Value), kinds P n t = some ks → vs.length = ks.length → shaped P t vs v → (Instr.checkKey em m t v).run P w = .ok () w) (V : Array Value) :
    ∀ (fs : List Field) (off : Nat) (ks : List Nat), kindsF P (kinds P n) fs off = some ks → off + ks.length ≤ V.size →
      (forIn (m := Sem) fs PUnit.unit fun f _ => do
        if f.name ≠ "_" then Instr.checkKey em m f.type (← part f.type V f.offset)
        pure (ForInStep.yield PUnit.unit)).run P w = .ok PUnit.unit w
  | [], _, _, _, _ => rfl
  | f :: fs, off, ks, h, hl => by
    unfold kindsF at h
    split at h
    · rename_i hn
      obtain ⟨hname, hoff⟩ := hn
      cases hk : kinds P n f.type with
      | none => simp [hk] at h
      | some k1 =>
        simp only [hk] at h
        cases hf : kindsF P (kinds P n) fs (off + k1.length) with
        | none => simp [hf] at h
        | some k2 =>
          simp only [hf] at h
          split at h
          · rename_i hsz
            simp only [Option.some.injEq] at h; subst h
            simp only [List.length_append] at hl
            obtain ⟨pv, hpv, sv⟩ := part_run (off := off) hk hsz V (by omega) (kinds_one hk) w
            have hr1 := ih f.type k1 _ pv hk (by simp only [List.length_take, List.length_drop]; have : V.toList.length = V.size := Array.length_toList; omega) sv
            have hr2 := checkFields_run n m em ih V fs (off + k1.length) k2 hf (by omega)
            rw [List.forIn_cons]
            rw [if_pos hname, hoff]
            simp only [Sem.run_bind, hpv, Result.andThen_ok, hr1, Sem.run_pure, hr2]
          · simp at h
    · simp at h

theorem checkKey_run (em : Bool) : ∀ (n m t : Nat) (ks : List Nat) (vs : List Value) (v : Value), kinds P n t = some ks → n ≤ m → vs.length = ks.length → shaped P t vs v → (Instr.checkKey em m t v).run P w = .ok () w
  | 0, _, _, _, _, _, h, _, _, _ => by simp [kinds] at h
  | n + 1, 0, _, _, _, _, _, h, _, _ => absurd h (by omega)
  | n + 1, m + 1, t, ks, vs, v, h, hm, hl, sv => by
    unfold kinds at h
    cases ht : P.underlying t with
    | none => simp [ht] at h
    | some desc =>
      simp only [ht] at h
      cases desc <;> simp only [reduceCtorEq, Option.some.injEq] at h
      case struct fs =>
        have hs : isStruct P t = true := by simp [isStruct, ht]
        unfold shaped at sv
        rw [if_pos hs] at sv
        subst sv
        split at h
        · have := checkFields_run n m em (fun t ks vs v h1 h2 h3 => checkKey_run em n m t ks vs v h1 (by omega) h2 h3) ⟨vs⟩ fs.toList 0 ks h (by simp [hl])
          unfold Instr.checkKey
          simp only [Sem.run_bind, underlying_run ht, Result.andThen_ok]
          rw [← Array.forIn_toList, this]
          rfl
        · simp at h
      all_goals
        unfold Instr.checkKey
        simp only [Sem.run_bind, underlying_run ht, Result.andThen_ok]
        rfl

/-! ### Where a key stands -/

theorem eqK_refl_kind {ks : List Nat} {x y : D} {r : Bool} (_h : eqK ks x.cells y.cells = some r) : True := trivial

/-- The entries of a map, and the machine's. -/
def EntRel (w : World) (G : Gh) (ρ : List Nat) (mes : List MapEntry) (es : List (D × Val)) : Prop := All2 (fun e p => Rd w G e.key p.1 ∧ RelA w G ρ e.val p.2) mes es

theorem entRel_of {mes : Array MapEntry} {es : List (D × Val)} (hl : mes.size = es.length) (h : ∀ (j : Nat) (e : MapEntry) (p : D × Val), mes[j]? = some e → es[j]? = some p → Rd w G e.key p.1 ∧ RelA w G ρ e.val p.2) : EntRel w G ρ mes.toList es := by
  have key : ∀ (l : List MapEntry) (es : List (D × Val)), l.length = es.length → (∀ (j : Nat) (e : MapEntry) (p : D × Val), l[j]? = some e → es[j]? = some p → Rd w G e.key p.1 ∧ RelA w G ρ e.val p.2) → EntRel w G ρ l es := by
    intro l
    induction l with
    | nil => intro es hl _; cases es with | nil => exact .nil | cons => simp at hl
    | cons e l ih =>
      intro es hl h
      cases es with
      | nil => simp at hl
      | cons p es => exact .cons (h 0 e p rfl rfl) (ih es (by simpa using hl) fun j e p h1 h2 => h (j + 1) e p (by simpa using h1) (by simpa using h2))
  exact key mes.toList es (by simpa using hl) fun j e p h1 h2 => h j e p (by simpa using h1) h2

/-- What is found: nothing, or the entry at a place. -/
def foundAt (mes : List MapEntry) (i : Nat) : Option Nat → Option (Nat × Value)
  | none => none
  | some j => (mes[j - i]?).map fun e => (j, e.val)

theorem findK_ge {ag : Bool} {ks : List Nat} {k : D} : ∀ {es : List (D × Val)} {i j : Nat}, findK ag ks k es i = some (some j) → i ≤ j ∧ j < i + es.length
  | [], i, j, h => by simp [findK] at h
  | e :: es, i, j, h => by
    simp only [findK] at h
    cases hg : isAg ag e.1 with
    | false => simp [hg] at h
    | true =>
      simp only [hg, cond_true] at h
      split at h
      · simp at h; subst h; simp
      · have := findK_ge h; simp only [List.length_cons]; omega
      · simp at h

theorem findAsking_run {kt : Nat} {ks : List Nat} {ag : Bool} {u : Value} {k : D} (hk : kinds P 10 kt = some ks) (hag : isStruct P kt = ag) (hu : Rd w G u k) (ha : isAg ag k = true) :
    ∀ {mes : List MapEntry} {es : List (D × Val)} {i : Nat} {r : Option Nat}, EntRel w G ρ mes es → findK ag ks k es i = some r → (Instr.findAsking kt u mes i).run P w = .ok (foundAt mes i r) w
  | [], _, i, r, h, hf => by
    cases h
    simp only [findK, Option.some.injEq] at hf
    subst hf
    rfl
  | e :: mes, _, i, r, h, hf => by
    cases h with
    | cons he h =>
      rename_i p es
      simp only [findK] at hf
      cases ha2 : isAg ag p.1 with
      | false => simp [ha2] at hf
      | true =>
      simp only [ha2, cond_true] at hf
      cases hq : eqK ks k.cells p.1.cells with
      | none => simp [hq] at hf
      | some b =>
        have heq := equal_run (P := P) hk hag hu he.1 ha ha2 hq
        simp only [hq] at hf
        cases b with
        | true =>
          simp only [Option.some.injEq] at hf
          subst hf
          simp only [Instr.findAsking, Sem.run_bind, heq, Result.andThen_ok, if_true, Sem.run_pure, foundAt, Nat.sub_self, List.getElem?_cons_zero, Option.map_some]
        | false =>
          have ih := findAsking_run hk hag hu ha h hf
          simp only [Instr.findAsking, Sem.run_bind, heq, Result.andThen_ok, Bool.false_eq_true, if_false, ih]
          congr 1
          cases r with
          | none => rfl
          | some j =>
            have hge := (findK_ge hf).1
            simp only [foundAt]
            rw [show j - i = (j - (i + 1)) + 1 by omega, List.getElem?_cons_succ]

theorem sameNow_run {kt : Nat} {ks : List Nat} {desc : TypeDesc} {u v : Value} {x y : D} {r : Bool} (hk : kinds P 10 kt = some ks) (hd : P.underlying kt = some desc) (hag : isStruct P kt = false) (hx : Rd w G u x) (hy : Rd w G v y) (a1 : isAg false x = true) (a2 : isAg false y = true)
    (he : eqK ks x.cells y.cells = some r) : Instr.sameNow desc u v = some r := by
  have hxc : x.cells = [x] := by cases x <;> first | rfl | simp [isAg] at a1
  have hyc : y.cells = [y] := by cases y <;> first | rfl | simp [isAg] at a2
  rw [hxc, hyc] at he
  unfold kinds at hk
  simp only [hd] at hk
  cases desc <;> simp only [reduceCtorEq, Option.some.injEq] at hk
  case bool =>
    subst hk
    obtain ⟨p, q, rfl, rfl, rfl⟩ := eqK_bool he
    cases hx; cases hy; rfl
  case int =>
    subst hk
    obtain ⟨k, p, q, rfl, rfl, rfl⟩ := eqK_int he
    cases hx; cases hy
    simp [Instr.sameNow, int_beq]
  case string =>
    subst hk
    obtain ⟨p, q, rfl, rfl, rfl⟩ := eqK_str he
    cases hx with | str s1 _ h1 => cases hy with | str s2 _ h2 => simp only [Instr.sameNow]; rw [beq_toListBytes, ByteArray.toList_eq, ByteArray.toList_eq, h1, h2, beq_list]
  case struct => simp [isStruct, hd] at hag

theorem findNow_run {kt : Nat} {ks : List Nat} {desc : TypeDesc} {u : Value} {k : D} (hk : kinds P 10 kt = some ks) (hd : P.underlying kt = some desc) (hag : isStruct P kt = false) (hu : Rd w G u k) (ha : isAg false k = true) :
    ∀ {mes : List MapEntry} {es : List (D × Val)} {i : Nat} {r : Option Nat}, EntRel w G ρ mes es → findK false ks k es i = some r → Instr.findNow desc u mes i = some (foundAt mes i r)
  | [], _, i, r, h, hf => by
    cases h
    simp only [findK, Option.some.injEq] at hf
    subst hf
    rfl
  | e :: mes, _, i, r, h, hf => by
    cases h with
    | cons he h =>
      rename_i p es
      simp only [findK] at hf
      cases ha2 : isAg false p.1 with
      | false => simp [ha2] at hf
      | true =>
      simp only [ha2, cond_true] at hf
      cases hq : eqK ks k.cells p.1.cells with
      | none => simp [hq] at hf
      | some b =>
        have heq := sameNow_run (P := P) hk hd hag hu he.1 ha ha2 hq
        simp only [hq] at hf
        cases b with
        | true =>
          simp only [Option.some.injEq] at hf
          subst hf
          simp only [Instr.findNow, heq, foundAt, Nat.sub_self, List.getElem?_cons_zero, Option.map_some]
        | false =>
          have ih := findNow_run hk hd hag hu ha h hf
          simp only [Instr.findNow, heq, ih]
          congr 1
          cases r with
          | none => rfl
          | some j =>
            have hge := (findK_ge hf).1
            simp only [foundAt]
            rw [show j - i = (j - (i + 1)) + 1 by omega, List.getElem?_cons_succ]

theorem findKey_run {kt : Nat} {ks : List Nat} {ag : Bool} {u : Value} {k : D} (hk : kinds P 10 kt = some ks) (hag : isStruct P kt = ag) (hu : Rd w G u k) (ha : isAg ag k = true)
    {mes : List MapEntry} {es : List (D × Val)} {r : Option Nat} (h : EntRel w G ρ mes es) (hf : findK ag ks k es 0 = some r) : (Instr.findKey kt u mes).run P w = .ok (foundAt mes 0 r) w := by
  have hd : ∃ desc, P.underlying kt = some desc := by
    unfold kinds at hk
    cases hd : P.underlying kt with
    | none => simp [hd] at hk
    | some d => exact ⟨d, rfl⟩
  obtain ⟨desc, hd⟩ := hd
  unfold Instr.findKey
  simp only [Sem.run_bind, underlying_run hd, Result.andThen_ok]
  cases ag with
  | false =>
    rw [findNow_run hk hd hag hu ha h hf]
    rfl
  | true =>
    have hask := findAsking_run hk hag hu ha h hf
    cases mes with
    | nil =>
      cases h
      simp only [findK, Option.some.injEq] at hf
      subst hf
      rfl
    | cons e mes =>
      have : Instr.findNow desc u (e :: mes) 0 = none := by
        cases desc <;> simp [isStruct, hd] at hag
        simp [Instr.findNow, Instr.sameNow]
      rw [this]
      exact hask

end
end Go.Vm
end

section
/- append to a slice of an object. Conditions: none. -/
set_option linter.unusedSimpArgs false
namespace Go.Vm

section
variable {P : Program} {gl : Nat → List D} {n0 nt : Nat} {a : Act} {w w' : World} {G G' : Gh} {ρ ρ' : List Nat} {lam lam' : Nat → Option Nat} {st st' : St} {K : St → Prop} {o : Oper} {Q : Exit → Act → World → Prop}

theorem append_exec {s t u : Nat} {x : Operand} {v : Value} {w1 : World} (hop : o.op = .call { callee := .builtin .append, args := #[.tmp s, x], argTypes := #[t, u] })
    (h : (Builtin.append_ #[t, u] o.type #[a.tmps.getD s undef, a.eval x]).run P w = .ok v w1) : (execOp a.eval o).run P w = .ok (.value v) w1 := by
  have he : a.eval (.tmp s) = a.tmps.getD s undef := rfl
  simp only [execOp, hop, resolve, Sem.run_bind, Sem.run_pure, Result.andThen_ok, invoke, builtin, List.map_toArray, List.map_cons, List.map_nil, he, h]

/-- A new object, of whatever kind. -/
theorem RelS.newOb {d : Nat} {ob : Obj} {v : Value} {x : Val} {vo : Ob} (h : RelS gl w G ρ lam a.tmps st) (hw : Grew w ob w') (hd : d < a.tmps.size)
    (ho : RelO w' (newG w G (.obj st.s.length) 0) (ρ ++ [w.heap.size + 1]) st.s.length w.heap.size vo) (hx : RelA w' (newG w G (.obj st.s.length) 0) (ρ ++ [w.heap.size + 1]) v x) :
    RelS gl w' (newG w G (.obj st.s.length) 0) (ρ ++ [w.heap.size + 1]) lam (a.tmps.setIfInBounds d v) ({ st with s := st.s ++ [vo] }.set d x) := by
  have hρ : ∀ i b : Nat, ρ[i]? = some (b + 1) → (ρ ++ [w.heap.size + 1])[i]? = some (b + 1) := fun i b hi => pre_app i _ hi
  have h0 := hw.rel (L0 := .obj st.s.length) (n0 := 0) h.lt h
  refine RelS.set (st := { st with s := st.s ++ [vo] }) ⟨fun t => ?_, ?_, h0.nb, ⟨by simp [h.ob.1], ?_⟩, h0.gb, h0.lt⟩ hd (.of_A hx)
  · exact (h0.tm t).tr (Keeps.refl _ _) hρ (fun _ _ h => h) (fun b n h => ⟨rfl, h⟩)
  · intro t cs' ht
    obtain ⟨b, h1, h2⟩ := h0.bx t cs' ht
    exact ⟨b, h1, RelBox.tr (Keeps.refl _ _) hρ (fun b n h => ⟨rfl, h⟩) (fun j b n h => ⟨rfl, h⟩) h2⟩
  · intro i b o hb ho'
    rcases getElem?_snoc hb with hb' | ⟨hi, heb⟩
    · have hil : i < st.s.length := by
        rw [← h.ob.1]
        rcases Nat.lt_or_ge i ρ.length with h' | h'
        · exact h'
        · rw [List.getElem?_eq_none h'] at hb'; simp at hb'
      rw [List.getElem?_append_left hil] at ho'
      exact (h0.ob.2 i b o hb' ho').tr (Keeps.refl _ _) hρ (fun b n h => ⟨rfl, h⟩) (fun j b n h => ⟨rfl, h⟩)
    · obtain rfl : w.heap.size = b := by omega
      have hi' : i = st.s.length := by rw [← h.ob.1]; exact hi
      subst hi'
      rw [List.getElem?_append_right (Nat.le_refl _)] at ho'
      simp at ho'
      subst ho'
      exact ho

/-- An object is dropped. -/
theorem RelObs.kill {s : Store} (h : RelObs w G ρ s) (i : Nat) : RelObs w G ρ (s.set i .dead) := by
  refine ⟨by simpa using h.1, fun j b ob hj hob => ?_⟩
  by_cases hij : j = i
  · subst hij
    have hlt : j < s.length := by
      rcases Nat.lt_or_ge j s.length with hl | hl
      · exact hl
      · rw [List.getElem?_eq_none (by simpa using hl)] at hob; simp at hob
    rw [List.getElem?_set_self hlt] at hob
    simp only [Option.some.injEq] at hob
    subst hob
    trivial
  · rw [List.getElem?_set_ne (Ne.symm hij)] at hob
    exact h.2 j b ob hj hob

theorem RelS.killO {tmps : Array Value} (h : RelS gl w G ρ lam tmps st) (i : Nat) : RelS gl w G ρ lam tmps { st with s := st.s.set i .dead } where
  tm := h.tm
  bx := h.bx
  nb := h.nb
  ob := h.ob.kill i
  gb := h.gb
  lt := h.lt

/-- The labels of an object's block and cells, under another number. -/
def mvL (i j : Nat) : Loc → Loc
  | .obj k => if k = i then .obj j else .obj k
  | .ocell k c => if k = i then .ocell j c else .ocell k c
  | L => L

theorem mvL_other {i j : Nat} {L : Loc} (h1 : L ≠ .obj i) (h2 : ∀ c, L ≠ .ocell i c) : mvL i j L = L := by
  cases L <;> simp only [mvL] <;> first | rfl | (split <;> first | rfl | (rename_i h; subst h; simp at h1 h2))

theorem mv_good {i j : Nat} (h : ∀ b L n, G b = some (L, n) → b < w.heap.size) : Good w G w (relab (mvL i j) G) :=
  relab_good h rfl fun L hL => by
    cases L <;> simp only [mvL] at hL <;> first | (split at hL <;> simp at hL; done) | simp at hL | rfl

/-- An object goes on under a new number, at the store's end. -/
theorem RelS.moveO {tmps : Array Value} {i b : Nat} {cs : List Val} (h : RelS gl w G ρ lam tmps st) (hb : st.s.getD i .dead = .box cs) (hi : ρ[i]? = some (b + 1)) :
    RelS gl w (relab (mvL i st.s.length) G) (ρ ++ [b + 1]) lam tmps { st with s := st.s.set i .dead ++ [.box cs] } ∧ Good w G w (relab (mvL i st.s.length) G) := by
  have hρ : ∀ i b' : Nat, ρ[i]? = some (b' + 1) → (ρ ++ [b + 1])[i]? = some (b' + 1) := fun i b' hi => pre_app i _ hi
  have hk : Keeps w G w (relab (mvL i st.s.length) G) := relab_keeps _
  have hid : ∀ L, L ≠ .obj i → (∀ c, L ≠ .ocell i c) → SameL L L w G w (relab (mvL i st.s.length) G) := fun L h1 h2 => relab_same' (mvL_other h1 h2)
  have hbox : RelBox w G ρ b (.obj i) (.ocell i) cs := by have := h.ob.at hi; rwa [hb] at this
  refine ⟨⟨fun t => (h.tm t).tr hk hρ (fun _ _ h => h) (hid _ (by simp) (by simp)), ?_, h.nb, ⟨by simp [h.ob.1], ?_⟩, h.gb.tr hk, relab_lt h.lt⟩, mv_good h.lt⟩
  · intro t cs' ht
    obtain ⟨b2, h1, h2⟩ := h.bx t cs' ht
    exact ⟨b2, h1, RelBox.tr hk hρ (hid _ (by simp) (by simp)) (fun j => hid _ (by simp) (by simp)) h2⟩
  · intro j b2 ob hj hob
    rcases getElem?_snoc hj with hj' | ⟨hj', heb⟩
    · have hjl : j < st.s.length := by
        rw [← h.ob.1]
        rcases Nat.lt_or_ge j ρ.length with h' | h'
        · exact h'
        · rw [List.getElem?_eq_none h'] at hj'; simp at hj'
      simp only at hob
      rw [List.getElem?_append_left (by simpa using hjl)] at hob
      by_cases hij : j = i
      · subst hij
        rw [List.getElem?_set_self hjl] at hob
        simp only [Option.some.injEq] at hob
        subst hob
        trivial
      · rw [List.getElem?_set_ne (Ne.symm hij)] at hob
        exact (h.ob.2 j b2 ob hj' hob).tr hk hρ (hid _ (by simp [hij]) (by simp)) (fun k => hid _ (by simp) (by simp [hij]))
    · obtain rfl : b = b2 := by omega
      have hj2 : j = st.s.length := by rw [← h.ob.1]; exact hj'
      subst hj2
      simp only at hob
      rw [List.getElem?_append_right (by simp)] at hob
      simp at hob
      subst hob
      have s1 := relab_same (w := w) (G := G) (mvL i st.s.length) (.obj i)
      simp only [mvL, if_true] at s1
      refine RelBox.tr hk hρ s1 (fun k => ?_) hbox
      have s2 := relab_same (w := w) (G := G) (mvL i st.s.length) (.ocell i k)
      simp only [mvL, if_true] at s2
      exact s2

end
end Go.Vm
end

section
/- append to a slice of an object, at an operation. Conditions: none. -/
set_option linter.unusedSimpArgs false
namespace Go.Vm

section
variable {P : Program} {gl : Nat → List D} {n0 nt : Nat} {a : Act} {w w' : World} {G G' : Gh} {ρ ρ' : List Nat} {lam lam' : Nat → Option Nat} {st st' : St} {K : St → Prop} {o : Oper} {Q : Exit → Act → World → Prop}

theorem RelBox.short {b : Nat} {L : Loc} {LC : Nat → Loc} {cs : List Val} (h : RelBox w G ρ b L LC cs) (m : Nat) : RelBox w G ρ b L LC (cs.take m) := by
  obtain ⟨c, E, fz, h1, h2, h3, h4, h5⟩ := h
  refine ⟨c, E, fz, h1, h2, h3, by rw [List.length_take]; omega, fun j v x hv hx => ?_⟩
  rw [List.getElem?_take] at hx
  split at hx
  · exact h5 j v x hv hx
  · simp at hx

/-- The object's number is free again. -/
theorem RelS.relabO {tmps : Array Value} {i : Nat} (h : RelS gl w G ρ lam tmps st) :
    RelS gl w (relab (mvL i st.s.length) G) ρ lam tmps { st with s := st.s.set i .dead } ∧ Good w G w (relab (mvL i st.s.length) G) := by
  have hk : Keeps w G w (relab (mvL i st.s.length) G) := relab_keeps _
  have hid : ∀ L, L ≠ .obj i → (∀ c, L ≠ .ocell i c) → SameL L L w G w (relab (mvL i st.s.length) G) := fun L h1 h2 => relab_same' (mvL_other h1 h2)
  refine ⟨⟨fun t => (h.tm t).tr hk (fun _ _ h => h) (fun _ _ h => h) (hid _ (by simp) (by simp)), ?_, h.nb, ⟨by simp [h.ob.1], ?_⟩, h.gb.tr hk, relab_lt h.lt⟩, mv_good h.lt⟩
  · intro t cs' ht
    obtain ⟨b2, h1, h2⟩ := h.bx t cs' ht
    exact ⟨b2, h1, RelBox.tr hk (fun _ _ h => h) (hid _ (by simp) (by simp)) (fun j => hid _ (by simp) (by simp)) h2⟩
  · intro j b2 ob hj hob
    by_cases hij : j = i
    · subst hij
      have hjl : j < st.s.length := by
        rcases Nat.lt_or_ge j st.s.length with hl | hl
        · exact hl
        · rw [List.getElem?_eq_none (by simpa using hl)] at hob; simp at hob
      rw [List.getElem?_set_self hjl] at hob
      simp only [Option.some.injEq] at hob
      subst hob
      trivial
    · rw [List.getElem?_set_ne (Ne.symm hij)] at hob
      exact (h.ob.2 j b2 ob hj hob).tr hk (fun _ _ h => h) (hid _ (by simp [hij]) (by simp)) (fun k => hid _ (by simp) (by simp [hij]))

/-- Cells are laid behind those that are known. -/
theorem RelS.extendO {tmps : Array Value} {i b : Nat} {cs xs : List Val} {us : List Value} (h : RelS gl w G ρ lam tmps st) (hb : st.s.getD i .dead = .box cs) (hi : ρ[i]? = some (b + 1)) (hr : RelL w G ρ us xs)
    (hsz : Sz w b (cs.length + us.length)) :
    RelS gl (w.setCells b cs.length us) (upd G b (some (.obj i, 0))) ρ lam tmps { st with s := st.s.set i (.box (cs ++ xs)) } ∧ Good w G (w.setCells b cs.length us) (upd G b (some (.obj i, 0))) := by
  have hbox : RelBox w G ρ b (.obj i) (.ocell i) cs := by have := h.ob.at hi; rwa [hb] at this
  obtain ⟨c, E, fz, h1, h2, h3, h4, h5⟩ := hbox
  obtain ⟨c2, E2, fz2, z1, z2⟩ := hsz
  rw [h1] at z1
  simp only [Option.some.injEq, Obj.cells.injEq] at z1
  obtain ⟨rfl, rfl, rfl⟩ := z1
  obtain ⟨c', w1a, w1b, w1c, w1d, w1e, w1f⟩ := own_write (b := b) (m := cs.length) (us := us) (k := 0) h1 (by omega)
  rw [Nat.add_zero] at w1a w1c w1d w1e w1f
  obtain ⟨hk, hsame, hgood, hlt⟩ := ext_facts (w := w) (L' := .obj i) (m' := 0) h3 (Nat.le_refl _) h1 w1a (fun j hj => by omega) (Nat.le_of_eq w1b.symm) w1e w1f h.lt (by simp) (by simp) setCells_env.1 setCells_env.2
  refine ⟨⟨fun t => (h.tm t).tr hk (fun _ _ h => h) (fun _ _ h => h) (hsame _ (by simp)), ?_, h.nb, ⟨by simpa using h.ob.1, ?_⟩, h.gb.tr hk, hlt⟩, hgood⟩
  · intro t cs' ht
    obtain ⟨b2, g1, g2⟩ := h.bx t cs' ht
    exact ⟨b2, g1, RelBox.tr hk (fun _ _ h => h) (hsame _ (by simp)) (fun j => hsame _ (by simp)) g2⟩
  · intro j b2 ob hj hob
    by_cases hij : j = i
    · subst hij
      rw [hi] at hj
      simp only [Option.some.injEq] at hj
      obtain rfl : b = b2 := by omega
      have hjl : j < st.s.length := by
        rcases Nat.lt_or_ge j st.s.length with hl | hl
        · exact hl
        · rw [List.getElem?_eq_none (by simpa using hl)] at hob; simp at hob
      rw [List.getElem?_set_self hjl] at hob
      simp only [Option.some.injEq] at hob
      subst hob
      refine ⟨c', E, fz, w1a, by rw [w1b]; exact h2, by rw [upd_self], by rw [w1b, List.length_append, ← hr.length]; omega, fun k v x hv hx => ?_⟩
      rcases Nat.lt_or_ge k cs.length with hkl | hkl
      · rw [List.getElem?_append_left hkl] at hx
        rw [w1c k (.inl hkl)] at hv
        exact (h5 k v x hv hx).tr hk (fun _ _ h => h) (hsame _ (by simp))
      · rw [List.getElem?_append_right hkl] at hx
        have hk2 : k - cs.length < us.length := by
          rw [hr.length]
          rcases Nat.lt_or_ge (k - cs.length) xs.length with h' | h'
          · exact h'
          · rw [List.getElem?_eq_none h'] at hx; simp at hx
        have hu := List.getElem?_eq_getElem hk2
        have := w1d (k - cs.length) _ hu
        rw [show cs.length + (k - cs.length) = k by omega] at this
        rw [this] at hv
        simp only [Option.some.injEq] at hv
        subst hv
        exact .of_A ((hr.get hu hx).keep hk fun _ _ h => h)
    · rw [List.getElem?_set_ne (Ne.symm hij)] at hob
      exact (h.ob.2 j b2 ob hj hob).tr hk (fun _ _ h => h) (hsame _ (by simp [hij])) (fun k => hsame _ (by simp))

theorem getD_box_len {s : Store} {i : Nat} {cs : List Val} (h : s.getD i .dead = .box cs) : i < s.length := by
  rcases Nat.lt_or_ge i s.length with hl | hl
  · exact hl
  · rw [List.getD_eq_getElem?_getD, List.getElem?_eq_none hl] at h; simp at h

/-- Appending to a slice of an object. -/
theorem sim_ap_obj {d s t u e sz bt bnd i off len cap k : Nat} {x : Operand} {desc : TypeDesc} {z cs us : List Val} {vs : List Value} (p : Pre n0 gl nt w G ρ lam a st) (hod : o.dst = some d) (hdt : d < nt)
    (hop : o.op = .call { callee := .builtin .append, args := #[.tmp s, x], argTypes := #[t, u] }) (ht : P.underlying t = some (.slice e)) (hsz : szOf P e = some sz) (_hpos : 0 < sz)
    (hbt : bytesOf P e = some bt) (hb0 : 0 < bt) (hbnd : bnd = 140737488355328 / bt) (hz : zeros P e = some z) (hu : P.underlying u = some desc) (hdesc : srcDesc desc = true)
    (hsrc : SrcIs P w (a.eval x) sz k vs) (hus : RelL w G ρ vs us) (hg : len + k ≤ bnd) (e1 : st.tm s = .sl i off len cap sz) (e2 : st.s.getD i .dead = .box cs)
    (hs : cond (Nat.ble (len + k) cap)
        (Nat.ble (off + (len + k) * sz) cs.length = true ∧ K ({ st with s := st.s.set i (.box (putCells cs (off + len * sz) us)) }.set d (.sl i off (len + k) cap sz)))
        ((Nat.beq off 0 && Nat.ble (len * sz) cs.length) = true ∧ K ({ st with s := st.s.set i .dead ++ [Ob.box (cs.take (len * sz) ++ us)] }.set d (.sl st.s.length 0 (len + k) (len + k) sz)))) : o.wp P a w (After n0 gl nt w G ρ K) Q := by
  obtain ⟨i1, zv, hi, hzv, hz1, hz2, _⟩ := zeros_spec hz
  have hib : i1.bytes = bt := by unfold bytesOf at hbt; rw [hi] at hbt; simpa using hbt
  have hisz : zv.cells.size = sz := by unfold szOf at hsz; rw [hi] at hsz; simp at hsz; omega
  have hbig : (len + k) * bt ≤ 140737488355328 := by
    have := Nat.mul_le_mul_right bt hg
    rw [hbnd] at this
    exact Nat.le_trans this (Nat.div_mul_le_self _ _)
  obtain ⟨hlen, hread2, hone, hul⟩ := hsrc
  have hread := hread2 w rfl
  have hTs := p.rel.tm s
  rw [e1] at hTs
  have hA : RelA w G ρ (a.tmps.getD s undef) (.sl i off len cap sz) := hTs
  generalize hv : a.tmps.getD s undef = v at hA
  cases hA with
  | sl _ _ _ _ cap' _ b hρ hcap hSz =>
    have hbox : RelBox w G ρ b (.obj i) (.ocell i) cs := by have := p.rel.ob.at hρ; rwa [e2] at this
    have hil := getD_box_len e2
    have hstore : ∀ c E fz, w.heap[b]? = some (.cells c E fz) → (∀ j, j < c.size → ¬ (fz.1 ≤ j ∧ j < fz.2)) → off + (len + k) * sz ≤ c.size →
        (storeCells ((⟨b, off, none⟩ : Addr).add (len * sz)) vs).run P w = .ok () (w.setCells b (off + len * sz) vs) := by
      intro c E fz h3 h4 hle
      have hlt : ∀ j, j < vs.length → off + len * sz + j < c.size := by
        intro j hj
        rw [Nat.add_mul] at hle
        omega
      have := run_storeCells_cells (P := P) b (off + len * sz) vs 0 w
        (fun j hj => by
          rw [Nat.add_zero, cell_of_block h3, Array.getElem?_eq_getElem (hlt j hj)]; rfl)
        (fun j hj => by
          rw [Nat.add_zero, frozen_of_block h3]
          have := h4 _ (hlt j hj)
          simp only [Bool.and_eq_false_imp, decide_eq_true_eq, decide_eq_false_iff_not]
          exact fun e1 e2 => this ⟨e1, e2⟩)
        hone
      rw [Nat.add_zero] at this
      rw [Addr.add_mid]
      exact this
    cases hfit : Nat.ble (len + k) cap with
    | true =>
      rw [hfit] at hs
      obtain ⟨hle, hs⟩ := hs
      have hle := Nat.le_of_ble_eq_true hle
      have hfit := Nat.le_of_ble_eq_true hfit
      have hbox0 := hbox
      obtain ⟨c, E, fz, h1, h2, h3, h4, h5⟩ := hbox0
      have hrun := append_fits (P := P) (ty := o.type) (n := len) (m := k) (cap := cap') (base := some ⟨b, off, none⟩) (w1 := w.setCells b (off + len * sz) vs) ht hsz hu hdesc hlen hread (by omega) (hstore c E fz h1 h2 (by omega))
      rw [← hv] at hrun
      obtain ⟨r1, r2⟩ := p.rel.writesO (off := off + len * sz) hρ e2 hus
      refine wp_value (append_exec hop hrun) (after_set r1 p.df p.sz hdt r2 (fun _ _ h => h) hod (.of_A (.sl _ _ _ _ _ _ _ hρ hcap (r2.keep.2.2 _ _ hSz))) hs)
    | false =>
      rw [hfit] at hs
      obtain ⟨hg2, hs⟩ := hs
      simp only [Bool.and_eq_true] at hg2
      obtain rfl : off = 0 := Nat.eq_of_beq_eq_true hg2.1
      have hcl := Nat.le_of_ble_eq_true hg2.2
      have htl : (cs.take (len * sz)).length = len * sz := by rw [List.length_take]; omega
      by_cases hfit' : len + k ≤ cap'
      · -- in place
        obtain ⟨c, E, fz, h1, h2, h3, h4, h5⟩ := hbox
        obtain ⟨c2, E2, fz2, z1, z2⟩ := hSz
        rw [h1] at z1
        simp only [Option.some.injEq, Obj.cells.injEq] at z1
        obtain ⟨rfl, rfl, rfl⟩ := z1
        have hroom : (len + k) * sz ≤ c.size := by
          have := Nat.mul_le_mul_right sz hfit'
          omega
        have hrun := append_fits (P := P) (ty := o.type) (n := len) (m := k) (cap := cap') (base := some ⟨b, 0, none⟩) (w1 := w.setCells b (0 + len * sz) vs) ht hsz hu hdesc hlen hread hfit' (hstore c E fz h1 h2 (by omega))
        rw [← hv] at hrun
        obtain ⟨m1, m2⟩ := p.rel.moveO e2 hρ
        -- only so many cells are known
        have m3 : RelS gl w (relab (mvL i st.s.length) G) (ρ ++ [b + 1]) lam a.tmps { st with s := st.s.set i .dead ++ [.box (cs.take (len * sz))] } := by
          refine ⟨m1.tm, m1.bx, m1.nb, ⟨by simpa using m1.ob.1, fun j b2 ob hj hob => ?_⟩, m1.gb, m1.lt⟩
          rcases getElem?_snoc hob with hob' | ⟨hj', heb⟩
          · refine m1.ob.2 j b2 ob hj ?_
            have hjl : j < (st.s.set i .dead).length := by
              rcases Nat.lt_or_ge j (st.s.set i .dead).length with h' | h'
              · exact h'
              · rw [List.getElem?_eq_none h'] at hob'; simp at hob'
            show (st.s.set i .dead ++ [.box cs])[j]? = some ob
            rw [List.getElem?_append_left hjl]
            exact hob'
          · subst heb
            have := m1.ob.2 j b2 (.box cs) hj (by
              show (st.s.set i .dead ++ [.box cs])[j]? = some (.box cs)
              rw [hj', List.getElem?_append_right (Nat.le_refl _)]; simp)
            exact RelBox.short this _
        have hgl : ({ st with s := st.s.set i .dead ++ [.box (cs.take (len * sz))] } : St).s.getD st.s.length .dead = .box (cs.take (len * sz)) := by
          show (st.s.set i .dead ++ [Ob.box (cs.take (len * sz))]).getD st.s.length .dead = _
          rw [List.getD_eq_getElem?_getD, List.getElem?_append_right (by simp)]
          simp
        have hρn : (ρ ++ [b + 1])[st.s.length]? = some (b + 1) := by rw [← p.rel.ob.1]; simp
        obtain ⟨x1, x2⟩ := m3.extendO hgl hρn (hus.keep m2.keep (fun i b h => pre_app i _ h)) ⟨c, E, fz, h1, by rw [htl, hul, ← Nat.add_mul]; exact hroom⟩
        rw [htl] at x1 x2
        rw [Nat.zero_add] at hrun
        have hset : (st.s.set i .dead ++ [Ob.box (cs.take (len * sz))]).set st.s.length (.box (cs.take (len * sz) ++ us)) = st.s.set i .dead ++ [Ob.box (cs.take (len * sz) ++ us)] := by
          rw [List.set_append_right _ _ (by simp)]
          simp
        simp only [hset] at x1
        refine wp_value (append_exec hop hrun) (after_set x1 p.df p.sz hdt (m2.trans x2) (fun i b h => pre_app i _ h) hod (.of_A (.sl _ _ _ _ _ _ _ hρn hfit' ?_)) hs)
        exact x2.keep.2.2 _ _ ⟨c, E, fz, h1, z2⟩
      · -- a new block
        have hbox0 := hbox
        obtain ⟨c, E, fz, h1, h2, h3, h4, h5⟩ := hbox0
        have holdl : (c.toList.take (len * sz)).length = len * sz := by rw [List.length_take, Array.length_toList]; omega
        have hold : ∀ w2 : World, w2.heap = w.heap → (Builtin.firstCells sz len (.slice (some ⟨b, 0, none⟩) len cap')).run P w2 = .ok ⟨c.toList.take (len * sz)⟩ w2 := by
          intro w2 hw2
          simp only [Builtin.firstCells]
          have := run_loadCells_list (P := P) w2 ⟨b, 0, none⟩ (c.toList.take (len * sz)) (fun j v hv => by
            rw [Addr.add_mid, heap_cell hw2, Nat.zero_add, cell_of_block h1]
            rw [List.getElem?_take] at hv
            split at hv
            · rw [Array.getElem?_toList] at hv; exact hv
            · simp at hv)
          rw [holdl] at this
          exact this
        obtain ⟨cap2, w1, hrun, hcap2, hgrew⟩ := append_grows (P := P) (ty := o.type) (base := some ⟨b, 0, none⟩) (x := a.eval x) ht hsz hi hib hzv hu hdesc hlen hread2 hold (by omega) hb0 hbig
        rw [← hv] at hrun
        obtain ⟨r1, r2⟩ := p.rel.relabO (i := i)
        have hsl : (st.s.set i .dead).length = st.s.length := by simp
        have hgk := hgrew.keeps (G := relab (mvL i st.s.length) G) (L0 := .obj st.s.length) (n0 := 0)
        have hzc : (Builtin.zeroCells zv.cells (cap2 - (len + k))).toList.length = (cap2 - (len + k)) * sz := by
          simp [Builtin.zeroCells, hisz]
        have hbn : RelBox w1 (newG w (relab (mvL i st.s.length) G) (.obj st.s.length) 0) (ρ ++ [w.heap.size + 1]) w.heap.size (.obj st.s.length) (.ocell st.s.length) (cs.take (len * sz) ++ us) := by
          refine ⟨_, e, (0, 0), hgrew.new, by simp, by rw [newG, upd_self], ?_, fun j v x hv hx => ?_⟩
          · rw [List.length_append, htl, ← hus.length, hul]
            simp only [List.size_toArray, List.length_append, holdl, hul]
            omega
          · rw [List.getElem?_toArray] at hv
            rcases Nat.lt_or_ge j (len * sz) with hj | hj
            · rw [List.getElem?_append_left (by rw [htl]; exact hj), List.getElem?_take, if_pos hj] at hx
              rw [List.append_assoc, List.getElem?_append_left (by rw [holdl]; exact hj), List.getElem?_take, if_pos hj, Array.getElem?_toList] at hv
              have hV := h5 j v x hv hx
              have s2 := relab_same (w := w) (G := G) (mvL i st.s.length) (.ocell i j)
              simp only [mvL, if_true] at s2
              have hV2 := hV.tr (ρ' := ρ) (relab_keeps (mvL i st.s.length)) (fun _ _ h => h) s2
              exact hV2.tr hgk (fun i b h => pre_app i _ h) (hgrew.same (L0 := .obj st.s.length) (n0 := 0) r1.lt _)
            · rw [List.getElem?_append_right (by rw [htl]; exact hj), htl] at hx
              have hj2 : j - len * sz < vs.length := by
                rw [hus.length]
                rcases Nat.lt_or_ge (j - len * sz) us.length with h' | h'
                · exact h'
                · rw [List.getElem?_eq_none h'] at hx; simp at hx
              rw [List.append_assoc, List.getElem?_append_right (by rw [holdl]; exact hj), holdl, List.getElem?_append_left hj2] at hv
              exact .of_A (((hus.get hv hx).keep (relab_keeps (mvL i st.s.length)) (fun _ _ h => h)).keep hgk (fun i b h => pre_app i _ h))
        have hρn : (ρ ++ [w.heap.size + 1])[st.s.length]? = some (w.heap.size + 1) := by rw [← p.rel.ob.1]; simp
        have hnew := RelS.newOb (a := a) (d := d) (v := .slice (some ⟨w.heap.size, 0, none⟩) (len + k) cap2) (x := .sl st.s.length 0 (len + k) (len + k) sz) (vo := .box (cs.take (len * sz) ++ us)) (st := { st with s := st.s.set i .dead }) r1 hgrew (Nat.lt_of_lt_of_le hdt p.sz)
          (by show RelBox _ _ _ _ (.obj (st.s.set i .dead).length) (.ocell (st.s.set i .dead).length) _; rw [hsl]; exact hbn)
          (by
            simp only [hsl]
            refine .sl _ _ _ _ _ _ _ hρn hcap2 ⟨_, e, (0, 0), hgrew.new, ?_⟩
            simp only [List.size_toArray, List.length_append, holdl, hul, hzc]
            rw [← Nat.add_mul, ← Nat.add_mul]
            refine Nat.le_of_eq ?_
            rw [Nat.zero_add]
            congr 1
            omega)
        simp only [hsl] at hnew
        refine wp_value (append_exec hop hrun) (after_mk p.df (put_defers _ _ _) (by rw [put_size]; exact p.sz) _ (ρ ++ [w.heap.size + 1]) lam _ ?_ (r2.trans (hgrew.good r1.lt (L0 := .obj st.s.length) (n0 := 0) (by simp))) (fun i b h => pre_app i _ h) hs)
        rw [hod]
        exact hnew

end
end Go.Vm
end

section
/- append, whatever is appended to. Conditions: none. -/
set_option linter.unusedSimpArgs false
namespace Go.Vm

section
variable {P : Program} {gl : Nat → List D} {n0 nt : Nat} {a : Act} {w w' : World} {G G' : Gh} {ρ ρ' : List Nat} {lam lam' : Nat → Option Nat} {st st' : St} {K : St → Prop} {o : Oper} {Q : Exit → Act → World → Prop}

theorem nil_val {v : Value} {sz : Nat} (h : RelA w G ρ v (.own sz [])) : ∃ ad, v = .slice ad 0 0 := by
  cases h; exact ⟨_, rfl⟩

theorem sim_apS {nw : Bool} {d s t u e sz bt bnd : Nat} {x : Operand} {x' : O} {desc : TypeDesc} {t1 : Nat} {z : List Val} (p : Pre n0 gl nt w G ρ lam a st) (hod : o.dst = some d) (hdt : d < nt)
    (hop : o.op = .call { callee := .builtin .append, args := #[.tmp s, x], argTypes := #[t, u] }) (hx : opd P t1 x = some x') (ht : P.underlying t = some (.slice e)) (hsz : szOf P e = some sz) (hpos : 0 < sz)
    (hbt : bytesOf P e = some bt) (hb0 : 0 < bt) (hbnd : bnd = 140737488355328 / bt) (hz : zeros P e = some z) (hu : P.underlying u = some desc) (hdesc : srcDesc desc = true)
    (hs : apStep (AP P gl) gl nw d s x' sz bnd st K) : o.wp P a w (After n0 gl nt w G ρ K) Q := by
  obtain ⟨Lx, hTx⟩ := ev_any hx p.rel
  unfold apStep at hs
  split at hs
  · rename_i sz1 l e1
    cases hn : (nw && l.isEmpty) with
    | true =>
      rw [hn] at hs
      simp only [cond_true] at hs
      have hl : l = [] := by simp only [Bool.and_eq_true, List.isEmpty_iff] at hn; exact hn.2
      subst hl
      have hTs := p.rel.tm s
      rw [e1] at hTs
      obtain ⟨ad, hv⟩ := nil_val (show RelA w G ρ (a.tmps.getD s undef) (.own sz1 []) from hTs)
      split at hs
      · rename_i cs0 e2
        obtain ⟨vs, h1, h2⟩ := srcOf_is (P := P) p.rel.ob hTx e2 hpos
        have hvs : vs = [] := by
          have := h1.2.2.2
          simpa using this
        subst hvs
        have hrun := append_fits (P := P) (ty := o.type) (n := 0) (m := 0) (cap := 0) (base := ad) (w1 := w) ht hsz hu hdesc h1.1 (h1.2.1 w rfl) (Nat.le_refl _) (by cases ad <;> rfl)
        rw [← hv] at hrun
        exact p.value hod hdt (append_exec hop hrun) (by rw [hv]; exact .of_A (.nil _ _)) hs
      · rename_i cs k hk e2
        obtain ⟨hg, hs⟩ := hs
        simp only [Bool.and_eq_true] at hg
        obtain ⟨hg1, hg2⟩ := hg
        obtain rfl : sz1 = sz := Nat.eq_of_beq_eq_true hg1
        have hg2 := Nat.le_of_ble_eq_true hg2
        obtain ⟨vs, h1, h2⟩ := srcOf_is (P := P) p.rel.ob hTx e2 hpos
        obtain ⟨i1, zv, hi, hzv, hz1, hz2, _⟩ := zeros_spec hz
        have hib : i1.bytes = bt := by unfold bytesOf at hbt; rw [hi] at hbt; simpa using hbt
        have hisz : zv.cells.size = sz1 := by unfold szOf at hsz; rw [hi] at hsz; simp at hsz; omega
        have hbig : (0 + k) * bt ≤ 140737488355328 := by
          rw [Nat.zero_add]
          have := Nat.mul_le_mul_right bt hg2
          rw [hbnd] at this
          exact Nat.le_trans this (Nat.div_mul_le_self _ _)
        have hk0 : 0 < k := by
          rcases Nat.eq_zero_or_pos k with h0 | h0
          · exact (hk h0).elim
          · exact h0
        obtain ⟨cap2, w1, hrun, hcap2, hgrew⟩ := append_grows (P := P) (ty := o.type) (n := 0) (olds := []) (cap := 0) (base := ad) (x := a.eval x) ht hsz hi hib hzv hu hdesc h1.1 h1.2.1
          (fun w2 _ => by
            cases ad with
            | none => rfl
            | some ad => simp only [Builtin.firstCells, Nat.zero_mul]; rfl) (by omega) hb0 hbig
        rw [← hv] at hrun
        have hgk := hgrew.keeps (G := G) (L0 := .obj st.s.length) (n0 := 0)
        have hzc : (Builtin.zeroCells zv.cells (cap2 - (0 + k))).toList.length = (cap2 - (0 + k)) * sz1 := by
          simp [Builtin.zeroCells, hisz]
        have hρn : (ρ ++ [w.heap.size + 1])[st.s.length]? = some (w.heap.size + 1) := by rw [← p.rel.ob.1]; simp
        have hnew := RelS.newOb (a := a) (d := d) (v := .slice (some ⟨w.heap.size, 0, none⟩) (0 + k) cap2) (x := .sl st.s.length 0 k k sz1) (vo := .box cs) p.rel hgrew (Nat.lt_of_lt_of_le hdt p.sz)
          (by
            refine ⟨_, e, (0, 0), hgrew.new, by simp, by rw [newG, upd_self], ?_, fun j v x hv hx => ?_⟩
            · rw [← h2.length, h1.2.2.2]
              simp only [List.size_toArray, List.length_append, List.nil_append, h1.2.2.2]
              omega
            · rw [List.getElem?_toArray, List.nil_append] at hv
              have hj2 : j < vs.length := by
                rw [h2.length]
                rcases Nat.lt_or_ge j cs.length with h' | h'
                · exact h'
                · rw [List.getElem?_eq_none h'] at hx; simp at hx
              rw [List.getElem?_append_left hj2] at hv
              exact .of_A ((h2.get hv hx).keep hgk (fun i b h => pre_app i _ h)))
          (by
            rw [Nat.zero_add]
            refine .sl _ _ _ _ _ _ _ hρn (by omega) ⟨_, e, (0, 0), hgrew.new, ?_⟩
            simp only [List.size_toArray, List.length_append, List.nil_append, h1.2.2.2, hzc]
            rw [← Nat.add_mul]
            refine Nat.le_of_eq ?_
            rw [Nat.zero_add]
            congr 1
            omega)
        refine wp_value (append_exec hop hrun) (after_mk p.df (put_defers _ _ _) (by rw [put_size]; exact p.sz) _ (ρ ++ [w.heap.size + 1]) lam _ ?_ (hgrew.good p.rel.lt (L0 := .obj st.s.length) (n0 := 0) (by simp)) (fun i b h => pre_app i _ h) hs)
        rw [hod]
        exact hnew
      · exact hs.elim
    | false =>
      rw [hn] at hs
      simp only [cond_false] at hs
      split at hs
      · rename_i sz2 l2 e2
        obtain ⟨hg, hs⟩ := hs
        simp only [Bool.and_eq_true] at hg
        obtain ⟨⟨hg1, hg2⟩, hg3⟩ := hg
        obtain rfl : sz1 = sz := Nat.eq_of_beq_eq_true hg1
        obtain rfl : sz2 = sz1 := Nat.eq_of_beq_eq_true hg2
        obtain ⟨us, h1, h2, h3⟩ := listX_is (P := P) p.rel.ob hTx e2 hpos
        exact sim_ap_own p hod hdt hop ht hsz hpos hbt hb0 hbnd hz hu hdesc h1 h2 h3 (Nat.le_of_ble_eq_true hg3) e1 hs
      · exact hs.elim
  · rename_i i off len cap sz1 e1
    split at hs
    · rename_i cs us k e2 e3
      obtain ⟨hg, hs⟩ := hs
      simp only [Bool.and_eq_true] at hg
      obtain ⟨hg1, hg2⟩ := hg
      obtain rfl : sz1 = sz := Nat.eq_of_beq_eq_true hg1
      obtain ⟨vs, h1, h2⟩ := srcOf_is (P := P) p.rel.ob hTx e3 hpos
      exact sim_ap_obj p hod hdt hop ht hsz hpos hbt hb0 hbnd hz hu hdesc h1 h2 (Nat.le_of_ble_eq_true hg2) e1 e2 hs
    · exact hs.elim
  · exact hs.elim

end
end Go.Vm
end

section
/- Maps, at operations. Conditions: none. -/
namespace Go.Vm

section
variable {P : Program} {gl : Nat → List D} {n0 nt : Nat} {a : Act} {w w' : World} {G G' : Gh} {ρ ρ' : List Nat} {lam lam' : Nat → Option Nat} {st st' : St} {K : St → Prop} {o : Oper} {Q : Exit → Act → World → Prop}

theorem sim_mm {d t : Nat} (p : Pre n0 gl nt w G ρ lam a st) (hod : o.dst = some d) (hdt : d < nt) (hop : o.op = .makeMap t none)
    (hs : step (AP P gl) gl (.mm d) st K) : o.wp P a w (After n0 gl nt w G ρ K) Q := by
  have hr : (execOp a.eval o).run P w = .ok (.value (.map (some w.heap.size))) { w with heap := w.heap.push (.map #[] 0) } := by
    simp only [execOp, hop, Option.map_none, Instr.makeMap, Sem.run_bind, run_newObj, Result.andThen_ok, Sem.run_pure]
  have hw : Grew w (.map #[] 0) { w with heap := w.heap.push (.map #[] 0) } := ⟨rfl, rfl, rfl⟩
  simp only [step] at hs
  refine wp_value hr (after_mk p.df (put_defers _ _ _) (by rw [put_size]; exact p.sz) _ (ρ ++ [w.heap.size + 1]) lam _ ?_ (hw.good p.rel.lt (L0 := .obj st.s.length) (n0 := 0) (by simp)) pre_app hs)
  rw [hod]
  have hidx : (ρ ++ [w.heap.size + 1])[st.s.length]? = some (w.heap.size + 1) := by rw [← p.rel.ob.1]; simp
  refine p.rel.newOb hw (Nat.lt_of_lt_of_le hdt p.sz) ⟨#[], 0, hw.new, by rw [newG, upd_self], rfl, by simp⟩ (.map _ _ hidx)

theorem zeroV_run {t : Nat} {x : Val} (h : zeroV P t = some x) : ∃ v, (∀ w : World, (zeroValue t).run P w = .ok v w) ∧ ∀ {w : World} {G : Gh} {ρ : List Nat}, RelA w G ρ v x := by
  unfold zeroV at h
  split at h
  · rename_i zs ag v _ _ hv
    cases hi : P.info? t with
    | none => rw [hi] at hv; simp at hv
    | some i =>
      rw [hi] at hv
      simp only [Option.bind_some] at hv
      split at h
      · rename_i hc
        simp only [Option.some.injEq] at h
        subst h
        exact ⟨v, fun w => zeroValue_run hi hv w, constRel_A hc⟩
      · simp at h
  · simp at h

theorem eqK_self_len {ks : List Nat} {x : D} (h : (eqK ks x.cells x.cells).isSome = true) : x.cells.length = ks.length := by
  obtain ⟨r, hr⟩ := Option.isSome_iff_exists.1 h
  exact (eqK_length hr).1

theorem key_shaped {kt : Nat} {ks : List Nat} {ag : Bool} {u : Value} {k : D} (hag : isStruct P kt = ag) (hu : Rd w G u k) (ha : isAg ag k = true) (hl : k.cells.length = ks.length) : ∃ vs, vs.length = ks.length ∧ shaped P kt vs u := by
  obtain ⟨vs, h1, h2, _⟩ := hu.cells ha
  exact ⟨vs, by rw [h1.length, hl], by unfold shaped; rw [hag]; exact h2⟩

theorem RelT.A_dat {v : Value} {x : D} {L : Loc} (h : RelT w G ρ lam L v (.d x)) : RelA w G ρ v (.d x) := .d _ _ h.dat

theorem sim_lk {d t kt et t1 : Nat} {ag ok : Bool} {ks : List Nat} {x k : Operand} {x' k' : O} {z : Val} (p : Pre n0 gl nt w G ρ lam a st) (hod : o.dst = some d) (hdt : d < nt) (hop : o.op = .lookup t x k ok) (hx : opd P t1 x = some x') (hk : opd P kt k = some k')
    (hu : P.underlying t = some (.map kt et)) (hz : zeroV P et = some z) (hks : kinds P 10 kt = some ks) (hag : isStruct P kt = ag)
    (hs : step (AP P gl) gl (.lk d ag ks x' k' z ok) st K) : o.wp P a w (After n0 gl nt w G ρ K) Q := by
  obtain ⟨L1, h1⟩ := ev_any hx p.rel
  obtain ⟨L2, h2⟩ := ev_any hk p.rel
  obtain ⟨zv, hzr, hzA⟩ := zeroV_run hz
  simp only [step] at hs
  split at hs
  · exact hs.elim
  · rename_i kd hkd
    obtain ⟨hg, hs⟩ := hs
    simp only [Bool.and_eq_true] at hg
    have hkr := h2.toD hkd
    obtain ⟨vs, hvl, hsh⟩ := key_shaped (P := P) hag hkr hg.1 (eqK_self_len hg.2)
    have hchk : ∀ em, (Instr.checkKey em 10000 kt (a.eval k)).run P w = .ok () w := fun em => checkKey_run em 10 10000 kt ks vs _ hks (by decide) hvl hsh
    -- not there
    have hnone : ∀ (es : Array MapEntry), ((a.eval x = .map none ∧ es = #[]) ∨ ∃ r clock, a.eval x = .map (some r) ∧ w.heap[r]? = some (.map es clock)) → (Instr.findKey kt (a.eval k) es.toList).run P w = .ok none w →
        K (st.set d (cond ok (.tuple [frz z, .d (.bool false)]) (frz z))) → o.wp P a w (After n0 gl nt w G ρ K) Q := by
      intro es hes hf hK
      refine p.value hod hdt (v := if ok then .tuple #[zv, .bool false] else zv) ?_ (.of_A ?_) hK
      · rcases hes with ⟨hm, rfl⟩ | ⟨r, clock, hm, hob⟩
        · simp only [execOp, hop, Instr.lookup, Sem.run_bind, underlying_run hu, Result.andThen_ok, hm, Sem.run_pure, hchk, hf, hzr]
        · have hgo : (getObj r).run P w = .ok (.map es clock) w := by simp only [getObj, Sem.run, hob]
          simp only [execOp, hop, Instr.lookup, Sem.run_bind, underlying_run hu, Result.andThen_ok, hm, hgo, Sem.run_pure, hchk, hf, hzr]
      · have hA : RelA w G ρ zv (frz z) := (hzA (w := w) (G := G) (ρ := ρ)).frz
        cases ok with
        | true => exact .tuple [zv, .bool false] _ (.cons _ _ _ _ hA (.cons _ _ _ _ (.d _ _ (.bool false)) .nil))
        | false => exact hA
    split at hs
    · rename_i e1
      rw [e1] at h1
      have h1' := h1.dat
      cases hv1 : a.eval x <;> rw [hv1] at h1' <;> cases h1'
      exact hnone #[] (.inl ⟨hv1, rfl⟩) (by
        have := findKey_run (P := P) (ρ := ρ) hks hag hkr hg.1 (mes := []) (es := []) (r := none) .nil rfl
        exact this) hs
    · rename_i kl vl e1
      rw [e1] at h1
      have h1' := h1.dat
      generalize hv1 : a.eval x = v1 at h1'
      cases h1' with
      | imap b kv vv kw vw _ _ hm hk hv hsm =>
        obtain ⟨_, mes, clock, m1, rfl, rfl⟩ := hm
        have hl1 := hk.length
        have hl2 := hv.length
        simp only [List.length_map, Array.length_toList] at hl1 hl2
        obtain ⟨hs1, hs2⟩ := hsm ag ks kd
        have hent : EntRel w G ρ mes.toList (zipE kw vw) := by
          refine entRel_of (by simp [← hl1, ← hl2]) fun j e pp he hp => ?_
          rw [List.getElem?_map, Option.map_eq_some_iff] at hp
          obtain ⟨q, hq, rfl⟩ := hp
          obtain ⟨hq1, hq2⟩ := List.getElem?_zip_eq_some.1 hq
          have he' : mes.toList[j]? = some e := by rw [Array.getElem?_toList]; exact he
          exact ⟨hk.get (by rw [List.getElem?_map, he']; rfl) hq1, .d _ _ (hv.get (by rw [List.getElem?_map, he']; rfl) hq2)⟩
        split at hs
        · rename_i hf
          have := findKey_run (P := P) hks hag hkr hg.1 hent (hs1 hf)
          exact hnone mes (.inr ⟨b, clock, hv1, m1⟩) this hs
        · rename_i j hf
          split at hs
          · rename_i vd he0
            obtain ⟨j, hf, he⟩ := hs2 _ _ hf he0
            have hfk := findKey_run (P := P) hks hag hkr hg.1 hent hf
            have hjl : j < mes.size := by have := (findK_ge hf).2; simp [← hl1, ← hl2] at this; omega
            have hfa : foundAt mes.toList 0 (some j) = some (j, mes[j].val) := by simp [foundAt, hjl]
            rw [hfa] at hfk
            have hgo : (getObj b).run P w = .ok (.map mes clock) w := by simp only [getObj, Sem.run, m1]
            refine p.value hod hdt (v := if ok then .tuple #[mes[j].val, .bool true] else mes[j].val) ?_ (.of_A ?_) hs
            · simp only [execOp, hop, Instr.lookup, Sem.run_bind, underlying_run hu, Result.andThen_ok, hv1, hgo, Sem.run_pure, hchk, hfk]
            · have hA : RelA w G ρ mes[j].val (.d vd) := .d _ _ (hv.get (by rw [List.getElem?_map, Array.getElem?_toList]; simp [hjl]) he)
              cases ok with
              | true => exact .tuple [_, .bool true] _ (.cons _ _ _ _ hA (.cons _ _ _ _ (.d _ _ (.bool true)) .nil))
              | false => exact hA
          · exact hs.elim
        · exact hs.elim
    · rename_i i e1
      rw [e1] at h1
      have h1' : RelA w G ρ (a.eval x) (.map i) := h1
      cases hv1 : a.eval x <;> rw [hv1] at h1' <;> cases h1'
      rename_i b hb
      split at hs
      · rename_i es e2
        have hobj : RelO w G ρ i b (.map es) := by have := p.rel.ob.at hb; rwa [e2] at this
        obtain ⟨mes, clock, m1, m2, m3, m4⟩ := hobj
        have hent := entRel_of m3 m4
        split at hs
        · rename_i hf
          have := findKey_run (P := P) hks hag hkr hg.1 hent hf
          exact hnone mes (.inr ⟨b, clock, hv1, m1⟩) this hs
        · rename_i j hf
          split at hs
          · rename_i e he
            have hfk := findKey_run (P := P) hks hag hkr hg.1 hent hf
            have hjl : j < mes.size := by have := (findK_ge hf).2; omega
            have hmj : mes[j]? = some mes[j] := by simp [hjl]
            have hfa : foundAt mes.toList 0 (some j) = some (j, mes[j].val) := by simp [foundAt, hjl]
            rw [hfa] at hfk
            have hgo : (getObj b).run P w = .ok (.map mes clock) w := by simp only [getObj, Sem.run, m1]
            refine p.value hod hdt (v := if ok then .tuple #[mes[j].val, .bool true] else mes[j].val) ?_ (.of_A ?_) hs
            · simp only [execOp, hop, Instr.lookup, Sem.run_bind, underlying_run hu, Result.andThen_ok, hv1, hgo, Sem.run_pure, hchk, hfk]
            · have hA := (m4 j _ _ hmj he).2
              cases ok with
              | true => exact .tuple [_, .bool true] _ (.cons _ _ _ _ hA (.cons _ _ _ _ (.d _ _ (.bool true)) .nil))
              | false => exact hA
          · exact hs.elim
        · exact hs.elim
      · exact hs.elim
    · exact hs.elim

/-! ### Writing -/

theorem sameBits_cells (n : Nat) : ∀ {ks : List Nat} {xs ys : List D} {us vs : List Value}, eqK ks xs ys = some true → RdL w G us xs → RdL w G vs ys → us.length = vs.length ∧ (us.zip vs).all (fun p => Instr.sameBits n p.1 p.2) = true
  | [], [], [], us, vs, _, h1, h2 => by cases h1; cases h2; exact ⟨rfl, rfl⟩
  | [], [], _ :: _, _, _, h, _, _ => by simp [eqK] at h
  | [], _ :: _, _, _, _, h, _, _ => by simp [eqK] at h
  | _ :: _, [], _, _, _, h, _, _ => by simp [eqK] at h
  | _ :: _, _ :: _, [], _, _, h, _, _ => by simp [eqK] at h
  | k :: ks, x :: xs, y :: ys, us, vs, h, h1, h2 => by
    cases h1 with
    | cons u _ us _ hu hus =>
      cases h2 with
      | cons v _ vs _ hv hvs =>
        have key : eqK ks xs ys = some true ∧ Instr.sameBits n u v = true := by
          unfold eqK at h
          split at h
          · rename_i p q
            cases he : eqK ks xs ys <;> simp [he] at h
            cases hu; cases hv
            obtain ⟨rfl, rfl⟩ := h
            exact ⟨rfl, by cases n <;> simp [Instr.sameBits]⟩
          · rename_i i p j q
            cases hd : decide (i = j) with
            | false => simp [hd] at h
            | true =>
              cases he : eqK ks xs ys <;> simp [hd, he] at h
              cases hu; cases hv
              obtain ⟨rfl, rfl⟩ := h
              have : i = j := by simpa using hd
              exact ⟨rfl, by cases n <;> simp [Instr.sameBits, this]⟩
          · rename_i p q
            cases he : eqK ks xs ys <;> simp [he] at h
            obtain ⟨rfl, rfl⟩ := h
            cases hu with | str s1 _ q1 => cases hv with | str s2 _ q2 =>
              refine ⟨rfl, ?_⟩
              have : s1 = s2 := by
                have h3 := q1.trans q2.symm
                obtain ⟨⟨a⟩⟩ := s1
                obtain ⟨⟨b⟩⟩ := s2
                simp at h3
                rw [h3]
              have hb : (s2 == s2) = true := by rw [beq_toListBytes]; simp
              cases n <;> simp [Instr.sameBits, this, hb]
          · simp at h
        obtain ⟨l1, l2⟩ := sameBits_cells n key.1 hus hvs
        exact ⟨by simp [l1], by simp [key.2, l2]⟩

theorem sameBits_key {ag : Bool} {ks : List Nat} {u v : Value} {x y : D} (hx : Rd w G u x) (hy : Rd w G v y) (a1 : isAg ag x = true) (a2 : isAg ag y = true) (he : eqK ks x.cells y.cells = some true) : Instr.sameBits 10000 v u = true := by
  obtain ⟨us, h1, h2, _⟩ := hx.cells a1
  obtain ⟨vs, h3, h4, _⟩ := hy.cells a2
  have hsym : ∀ {ks : List Nat} {xs ys : List D}, eqK ks xs ys = some true → eqK ks ys xs = some true := by
    intro ks
    induction ks with
    | nil => intro xs ys h; cases xs <;> cases ys <;> simp [eqK] at h ⊢
    | cons k ks ih =>
      intro xs ys h
      cases xs with
      | nil => simp [eqK] at h
      | cons x xs =>
        cases ys with
        | nil => simp [eqK] at h
        | cons y ys =>
          unfold eqK at h
          split at h
          · cases he : eqK ks xs ys <;> simp [he] at h
            obtain ⟨rfl, rfl⟩ := h
            simp [eqK, ih he]
          · rename_i i p j q
            cases hd : decide (i = j) with
            | false => simp [hd] at h
            | true =>
              cases he : eqK ks xs ys <;> simp [hd, he] at h
              obtain ⟨rfl, rfl⟩ := h
              have : i = j := by simpa using hd
              subst this
              simp [eqK, ih he]
          · cases he : eqK ks xs ys <;> simp [he] at h
            obtain ⟨rfl, rfl⟩ := h
            simp [eqK, ih he]
          · simp at h
  cases ag with
  | true =>
    simp only [if_true] at h2 h4
    subst h2; subst h4
    obtain ⟨l1, l2⟩ := sameBits_cells 9999 (hsym he) h3 h1
    have : ∀ n, (vs.zip us).all (fun p => Instr.sameBits n p.1 p.2) = true → vs.length = us.length → Instr.sameBits (n + 1) (.agg ⟨vs⟩) (.agg ⟨us⟩) = true := by
      intro n h5 h6
      simp [Instr.sameBits, h6]
      simpa using h5
    exact this 9999 l2 l1
  | false =>
    simp only [Bool.false_eq_true, if_false] at h2 h4
    subst h2; subst h4
    obtain ⟨_, l2⟩ := sameBits_cells 10000 (hsym he) h3 h1
    simpa using l2

end
end Go.Vm
end

section
/- A map is written. Conditions: none. -/
namespace Go.Vm

section
variable {P : Program} {gl : Nat → List D} {n0 nt : Nat} {a : Act} {w w' : World} {G G' : Gh} {ρ ρ' : List Nat} {lam lam' : Nat → Option Nat} {st st' : St} {K : St → Prop} {o : Oper} {Q : Exit → Act → World → Prop}

/-- One block that is no row of cells is laid anew by its owner. -/
theorem setMap_facts {b i : Nat} {mes : Array MapEntry} {clock : Nat} {ob : Obj} (hG : G b = some (.obj i, 0)) (h : w.heap[b]? = some (.map mes clock)) (hlt : ∀ b L n, G b = some (L, n) → b < w.heap.size) :
    let w1 : World := { w with heap := w.heap.setIfInBounds b ob }
    w1.heap[b]? = some ob ∧ Keeps w G w1 G ∧ (∀ L, L ≠ .obj i → SameL L L w G w1 G) ∧ Good w G w1 G ∧ ∀ b L n, G b = some (L, n) → b < w1.heap.size := by
  have hb : b < w.heap.size := hlt _ _ _ hG
  have hoth : ∀ b', b' ≠ b → (w.heap.setIfInBounds b ob)[b']? = w.heap[b']? := fun b' hne => by rw [Array.getElem?_setIfInBounds_ne (Ne.symm hne)]
  have hk : Keeps w G { w with heap := w.heap.setIfInBounds b ob } G := by
    refine ⟨?_, ?_, ?_⟩
    rotate_left
    · intro b' ks vs hc
      obtain ⟨h1, mes', clock', h2, h3⟩ := hc
      have hne : b' ≠ b := by rintro rfl; rw [hG] at h1; simp at h1
      exact ⟨h1, mes', clock', (hoth _ hne).trans h2, h3⟩
    · intro b' n hc
      obtain ⟨c, E, fz, h2, h3⟩ := hc
      have hne : b' ≠ b := by rintro rfl; rw [h] at h2; simp at h2
      exact ⟨c, E, fz, (hoth _ hne).trans h2, h3⟩
    intro b' off v hc
    have hne : b' ≠ b := by
      rintro rfl
      have := hc.1
      unfold World.cell? at this
      rw [show ((⟨b', off, none⟩ : Addr).block) = b' from rfl, h] at this
      simp at this
    exact ⟨by rw [cell_congr (w := w) (w' := { w with heap := w.heap.setIfInBounds b ob }) (hoth _ hne)]; exact hc.1, hc.2⟩
  refine ⟨?_, hk, ?_, ⟨?_, ?_, ?_, fun _ _ _ h => h, hk, rfl, rfl⟩, ?_⟩
  · simp [hb]
  · intro L hL b' n hb'
    have hne : b' ≠ b := by rintro rfl; rw [hG] at hb'; simp only [Option.some.injEq, Prod.mk.injEq] at hb'; exact hL hb'.1.symm
    exact ⟨hoth _ hne, hb'⟩
  · simp
  · intro b' _ h'
    have hne : b' ≠ b := by
      rintro rfl
      rcases h' with h' | ⟨n, h'⟩ <;> rw [hG] at h' <;> simp at h'
    exact ⟨hoth _ hne, rfl⟩
  · intro b' n hb' hG'; exact absurd (hlt _ _ _ hG') (by simpa using hb')
  · intro b' L n h'; have := hlt _ _ _ h'; simpa using this

theorem sim_mu {t kt et t1 t2 : Nat} {ag : Bool} {ks : List Nat} {x k v : Operand} {x' k' v' : O} (p : Pre n0 gl nt w G ρ lam a st) (hod : o.dst = none) (hop : o.op = .mapUpdate t x k v) (hx : opd P t1 x = some x') (hk : opd P kt k = some k') (hv : opd P t2 v = some v')
    (hu : P.underlying t = some (.map kt et)) (hks : kinds P 10 kt = some ks) (hag : isStruct P kt = ag)
    (hs : step (AP P gl) gl (.mu ag ks x' k' v') st K) : o.wp P a w (After n0 gl nt w G ρ K) Q := by
  obtain ⟨L1, h1⟩ := ev_any hx p.rel
  obtain ⟨L2, h2⟩ := ev_any hk p.rel
  obtain ⟨L3, h3⟩ := ev_any hv p.rel
  simp only [step] at hs
  split at hs
  · rename_i i kd e1 hkd
    rw [e1] at h1
    have h1' : RelA w G ρ (a.eval x) (.map i) := h1
    cases hv1 : a.eval x <;> rw [hv1] at h1' <;> cases h1'
    rename_i b hb
    split at hs
    · rename_i es e2
      split at hs
      · rename_i j hf
        obtain ⟨hg, hs⟩ := hs
        simp only [Bool.and_eq_true] at hg
        obtain ⟨⟨hno, hia⟩, hself⟩ := hg
        have hkr := h2.toD hkd
        obtain ⟨vs, hvl, hsh⟩ := key_shaped (P := P) hag hkr hia (eqK_self_len hself)
        have hchk : ∀ em, (Instr.checkKey em 10000 kt (a.eval k)).run P w = .ok () w := fun em => checkKey_run em 10 10000 kt ks vs _ hks (by decide) hvl hsh
        have hvA : RelA w G ρ (a.eval v) (frz (ev gl st v')) := by
          have := (h3.frz (L' := .res)).of_noL hno
          have h4 := this.frz
          rcases this.cases with h | ⟨sz, d, l, e, _⟩
          · exact h
          · exfalso
            cases hev : ev gl st v' <;> rw [hev] at e <;> simp [frz] at e
            rename_i cs2
            cases hfl : frzL cs2 <;> simp [hfl] at e
        have hobj : RelO w G ρ i b (.map es) := by have := p.rel.ob.at hb; rwa [e2] at this
        obtain ⟨mes, clock, m1, m2, m3, m4⟩ := hobj
        have hent := entRel_of m3 m4
        have hfk := findKey_run (P := P) hks hag hkr hia hent hf
        have hgo : (getObj b).run P w = .ok (.map mes clock) w := by simp only [getObj, Sem.run, m1]
        have hset : ∀ ob, (setObj b ob).run P w = .ok () { w with heap := w.heap.setIfInBounds b ob } := fun ob => by simp only [setObj, Sem.run, m1]
        -- whatever is laid there reads as the machine's
        have fin : ∀ (mes' : Array MapEntry) (clock' : Nat), (execOp a.eval o).run P w = .ok .skip { w with heap := w.heap.setIfInBounds b (.map mes' clock') } → mes'.size = (putK es kd (frz (ev gl st v')) j).length →
            (∀ (q : Nat) (e : MapEntry) (pp : D × Val), mes'[q]? = some e → (putK es kd (frz (ev gl st v')) j)[q]? = some pp → Rd w G e.key pp.1 ∧ RelA w G ρ e.val pp.2) → o.wp P a w (After n0 gl nt w G ρ K) Q := by
          intro mes' clock' hr hsz hall
          obtain ⟨f1, f2, f3, f4, f5⟩ := setMap_facts (ob := .map mes' clock') m2 m1 p.rel.lt
          refine wp_skip' hr (after_mk p.df (put_defers _ _ _) (by rw [put_size]; exact p.sz) G ρ lam _ ?_ f4 (fun _ _ h => h) hs)
          rw [hod]
          refine ⟨fun s => (p.rel.tm s).tr f2 (fun _ _ h => h) (fun _ _ h => h) (f3 _ (by simp)), ?_, p.rel.nb, ⟨by simpa using p.rel.ob.1, ?_⟩, p.rel.gb.tr f2, f5⟩
          · intro s cs' hs'
            obtain ⟨b2, g1, g2⟩ := p.rel.bx s cs' hs'
            exact ⟨b2, g1, RelBox.tr f2 (fun _ _ h => h) (f3 _ (by simp)) (fun j => f3 _ (by simp)) g2⟩
          · intro q b2 ob hq hob
            by_cases hqi : q = i
            · subst hqi
              rw [hb] at hq
              simp only [Option.some.injEq] at hq
              obtain rfl : b = b2 := by omega
              have hlt : q < st.s.length := by
                rcases Nat.lt_or_ge q st.s.length with hl | hl
                · exact hl
                · rw [List.getElem?_eq_none (by simpa using hl)] at hob; simp at hob
              simp only [List.getElem?_set_self hlt, Option.some.injEq] at hob
              subst hob
              exact ⟨mes', clock', f1, m2, hsz, fun q e pp h5 h6 => ⟨(hall q e pp h5 h6).1.keep f2, (hall q e pp h5 h6).2.keep f2 fun _ _ h => h⟩⟩
            · simp only [List.getElem?_set_ne (Ne.symm hqi)] at hob
              exact (p.rel.ob.2 q b2 ob hq hob).tr f2 (fun _ _ h => h) (f3 _ (by simp [hqi])) (fun k => f3 _ (by simp))
        cases j with
        | none =>
          have hfa : foundAt mes.toList 0 none = none := rfl
          rw [hfa] at hfk
          refine fin (mes.push { key := a.eval k, val := a.eval v, born := clock }) (clock + 1) ?_ (by simp [putK, m3]) ?_
          · simp only [execOp, hop, Instr.mapUpdate, Sem.run_bind, underlying_run hu, Result.andThen_ok, hv1, hgo, hchk, hfk, hset, Sem.run_pure]
          · intro q e pp hq hpp
            simp only [putK] at hpp
            rw [Array.getElem?_push] at hq
            split at hq
            · rename_i hqe
              simp only [Option.some.injEq] at hq
              subst hq
              rw [hqe, m3, List.getElem?_append_right (Nat.le_refl _)] at hpp
              simp at hpp
              subst hpp
              exact ⟨hkr, hvA⟩
            · have hlt : q < es.length := by
                rw [← m3]
                rcases Nat.lt_or_ge q mes.size with h | h
                · exact h
                · rw [Array.getElem?_eq_none h] at hq; simp at hq
              rw [List.getElem?_append_left hlt] at hpp
              exact m4 q e pp hq hpp
        | some j =>
          have hjl : j < es.length := by have := (findK_ge hf).2; omega
          have hjm : j < mes.size := by omega
          have hmj : mes[j]? = some mes[j] := by simp [hjm]
          have hfa : foundAt mes.toList 0 (some j) = some (j, mes[j].val) := by simp [foundAt, hjm]
          rw [hfa] at hfk
          have hej : es[j]? = some es[j] := List.getElem?_eq_getElem hjl
          -- the key that stays is the new one: both are one
          have hsame : eqK ks kd.cells es[j].1.cells = some true ∧ isAg ag es[j].1 = true := by
            have key : ∀ (es : List (D × Val)) (i j : Nat), findK ag ks kd es i = some (some j) → ∃ e, es[j - i]? = some e ∧ eqK ks kd.cells e.1.cells = some true ∧ isAg ag e.1 = true := by
              intro es
              induction es with
              | nil => intro i j h; simp [findK] at h
              | cons e es ih =>
                intro i j h
                simp only [findK] at h
                cases hg : isAg ag e.1 with
                | false => simp [hg] at h
                | true =>
                  simp only [hg, cond_true] at h
                  split at h
                  · rename_i hq
                    simp only [Option.some.injEq] at h
                    subst h
                    exact ⟨e, by simp, hq, hg⟩
                  · obtain ⟨e', h1, h2⟩ := ih _ _ h
                    have hge := (findK_ge h).1
                    exact ⟨e', by rw [show j - i = (j - (i + 1)) + 1 by omega, List.getElem?_cons_succ]; exact h1, h2⟩
                  · simp at h
            obtain ⟨e, h4, h5⟩ := key es 0 j hf
            rw [Nat.sub_zero, hej] at h4
            simp only [Option.some.injEq] at h4
            subst h4
            exact h5
          have hsb := sameBits_key hkr (m4 j _ _ hmj hej).1 hia hsame.2 hsame.1
          have hstay : (Instr.keyThatStays (((mes[j]?).map (·.key)).getD (a.eval k)) (a.eval k)).run P w = .ok (a.eval k) w := by
            rw [hmj]
            simp only [Option.map_some, Option.getD_some, Instr.keyThatStays, hsb, if_true, Sem.run_pure]
          refine fin (mes.modify j fun e => { e with key := a.eval k, val := a.eval v }) clock ?_ (by simp [putK, m3]) ?_
          · simp only [execOp, hop, Instr.mapUpdate, Sem.run_bind, underlying_run hu, Result.andThen_ok, hv1, hgo, hchk, hfk, hstay, hset, Sem.run_pure]
          · intro q e pp hq hpp
            simp only [putK] at hpp
            rw [Array.getElem?_modify] at hq
            by_cases hqj : q = j
            · subst hqj
              rw [List.getElem?_set_self hjl] at hpp
              simp only [Option.some.injEq] at hpp
              subst hpp
              rw [if_pos rfl, hmj] at hq
              simp only [Option.map_some, Option.some.injEq] at hq
              subst hq
              exact ⟨hkr, hvA⟩
            · rw [List.getElem?_set_ne (Ne.symm hqj)] at hpp
              rw [if_neg (Ne.symm hqj)] at hq
              exact m4 q e pp hq hpp
      · exact hs.elim
    · exact hs.elim
  · exact hs.elim

end
end Go.Vm
end

section
/- Calls: what the callee gets, and what comes back. Conditions: none. -/
namespace Go.Vm

section
variable {P : Program} {gl : Nat → List D} {n0 nt : Nat} {a : Act} {w w' : World} {G G' : Gh} {ρ ρ' : List Nat} {lam lam' : Nat → Option Nat} {st st' : St} {K : St → Prop} {o : Oper} {Q : Exit → Act → World → Prop}

theorem elemB_iff {i : Nat} : ∀ {l : List Nat}, elemB i l = true ↔ i ∈ l
  | [] => by simp [elemB]
  | j :: l => by
    simp only [elemB, List.mem_cons]
    cases h : Nat.beq i j with
    | true => simp [Nat.eq_of_beq_eq_true h]
    | false =>
      have : i ≠ j := by rintro rfl; rw [Nat.beq_refl] at h; simp at h
      simp [this, elemB_iff (l := l)]

theorem idxIn_get {i : Nat} : ∀ {l : List Nat}, i ∈ l → l[idxIn i l]? = some i
  | [], h => by simp at h
  | j :: l, h => by
    simp only [idxIn]
    cases hb : Nat.beq i j with
    | true => simp [Nat.eq_of_beq_eq_true hb]
    | false =>
      have : i ≠ j := by rintro rfl; rw [Nat.beq_refl] at hb; simp at hb
      simp only [List.mem_cons, this, false_or] at h
      simp only [cond_false, List.getElem?_cons_succ]
      exact idxIn_get h

theorem nodupB_get : ∀ {l : List Nat} {i k : Nat}, nodupB l = true → l[k]? = some i → idxIn i l = k
  | [], i, k, _, h => by simp at h
  | j :: l, i, k, hn, h => by
    simp only [nodupB, Bool.and_eq_true, Bool.not_eq_true'] at hn
    simp only [idxIn]
    cases k with
    | zero =>
      simp only [List.getElem?_cons_zero, Option.some.injEq] at h
      subst h
      simp
    | succ k =>
      simp only [List.getElem?_cons_succ] at h
      have hm : i ∈ l := List.mem_of_getElem? h
      have hne : i ≠ j := by rintro rfl; rw [elemB_iff.2 hm] at hn; simp at hn
      have hb : Nat.beq i j = false := by rw [Bool.eq_false_iff]; intro h'; exact hne (Nat.eq_of_beq_eq_true h')
      simp only [hb, cond_false, nodupB_get hn.2 h]

/-! ### Other numbers for the objects -/

theorem ren_rel {f : Nat → Nat} (hk : Keeps w G w' G') : ∀ (n : Nat) {v : Value} {x : Val}, RelA w G ρ v x → (∀ i b, i ∈ refs n x → ρ[i]? = some (b + 1) → ρ'[f i]? = some (b + 1)) → RelA w' G' ρ' v (ren f n x) := by
  intro n
  induction n with
  | zero =>
    intro v x h hr
    cases h with
    | undef v => exact .undef v
    | d v y h => exact .d v y (h.keep hk)
    | nil a sz => exact .nil a sz
    | ptr i off b h => exact .ptr _ _ _ (hr i b (by simp [refs]) h)
    | map i b h => exact .map _ _ (hr i b (by simp [refs]) h)
    | sl i off len cap cap' sz b h hc hz => exact .sl _ _ _ _ _ _ _ (hr i b (by simp [refs]) h) hc (hk.2.2 _ _ hz)
    | func _ _ _ _ _ _ _ => exact .undef _
    | agg _ _ _ => exact .undef _
    | tuple _ _ _ => exact .undef _
    | yl _ _ _ => exact .undef _
  | succ n ih =>
    have ihL : ∀ {vs : List Value} {xs : List Val}, RelL w G ρ vs xs → (∀ i b, i ∈ xs.flatMap (refs n) → ρ[i]? = some (b + 1) → ρ'[f i]? = some (b + 1)) → RelL w' G' ρ' vs (xs.map (ren f n)) := by
      intro vs
      induction vs with
      | nil => intro xs h _; cases h; exact .nil
      | cons v vs ihv =>
        intro xs h hr
        cases h with
        | cons _ x _ xs h1 h2 =>
          exact .cons _ _ _ _ (ih h1 fun i b hi hb => hr i b (by simp [hi]) hb) (ihv h2 fun i b hi hb => hr i b (by simp only [List.flatMap_cons, List.mem_append]; exact .inr hi) hb)
    intro v x h hr
    cases h with
    | undef v => exact .undef v
    | d v y h => exact .d v y (h.keep hk)
    | nil a sz => exact .nil a sz
    | ptr i off b h => exact .ptr _ _ _ (hr i b (by simp [refs]) h)
    | map i b h => exact .map _ _ (hr i b (by simp [refs]) h)
    | sl i off len cap cap' sz b h hc hz => exact .sl _ _ _ _ _ _ _ (hr i b (by simp [refs]) h) hc (hk.2.2 _ _ hz)
    | func g ars cs a c h1 h2 =>
      refine .func _ _ _ _ _ (ihL h1 fun i b hi hb => hr i b ?_ hb) (ihL h2 fun i b hi hb => hr i b ?_ hb)
      · simp only [refs, List.flatMap_append, List.mem_append]; exact .inl hi
      · simp only [refs, List.flatMap_append, List.mem_append]; exact .inr hi
    | agg vs cs h => exact .agg _ _ (ihL h fun i b hi hb => hr i b (by simpa [refs] using hi) hb)
    | tuple vs cs h => exact .tuple _ _ (ihL h fun i b hi hb => hr i b (by simpa [refs] using hi) hb)
    | yl _ _ _ => exact .undef _

theorem ren_relV {f : Nat → Nat} {L L' : Loc} {n : Nat} (hk : Keeps w G w' G') (hs : SameL L L' w G w' G') {v : Value} {x : Val} (h : RelV w G ρ L v x) (hr : ∀ i b, i ∈ refs n x → ρ[i]? = some (b + 1) → ρ'[f i]? = some (b + 1)) : RelV w' G' ρ' L' v (ren f n x) := by
  rcases h.cases with h | ⟨sz, d, l, rfl, h⟩
  · exact .of_A (ren_rel hk n h hr)
  · have : ren f n (.own sz (d :: l)) = .own sz (d :: l) := by cases n <;> rfl
    rw [this]
    exact OwnRel.tr hk hs h

theorem ren_relL {f : Nat → Nat} {n : Nat} (hk : Keeps w G w' G') : ∀ {vs : List Value} {xs : List Val}, RelL w G ρ vs xs → (∀ i b, i ∈ xs.flatMap (refs n) → ρ[i]? = some (b + 1) → ρ'[f i]? = some (b + 1)) → RelL w' G' ρ' vs (xs.map (ren f n))
  | [], _, h, _ => by cases h; exact .nil
  | v :: vs, _, h, hr => by
    cases h with
    | cons _ x _ xs h1 h2 =>
      exact .cons _ _ _ _ (ren_rel hk n h1 fun i b hi hb => hr i b (by simp [hi]) hb) (ren_relL hk h2 fun i b hi hb => hr i b (by simp only [List.flatMap_cons, List.mem_append]; exact .inr hi) hb)

theorem ren_relO {f : Nat → Nat} {i j b : Nat} {ob : Ob} (hk : Keeps w G w' G') (hs : SameL (.obj i) (.obj j) w G w' G') (hc : ∀ q, SameL (.ocell i q) (.ocell j q) w G w' G') (h : RelO w G ρ i b ob)
    (hr : ∀ i b, i ∈ ob.refs → ρ[i]? = some (b + 1) → ρ'[f i]? = some (b + 1)) : RelO w' G' ρ' j b (ob.ren f) := by
  cases ob with
  | dead => trivial
  | bld t e bs =>
    obtain ⟨p, v, h1, h2, h3, h4⟩ := h
    obtain ⟨e1, e2⟩ := hs _ _ h2
    refine ⟨p, v, e1.trans h1, e2, h3, ?_⟩
    rcases h4 with h4 | ⟨g, cap, c, fz, a1, a2, a3, a4⟩
    · exact .inl h4
    · obtain ⟨f1, f2⟩ := hc 1 _ _ a3
      exact .inr ⟨g, cap, c, fz, a1, f1.trans a2, f2, a4⟩
  | itr m =>
    rcases h with ⟨since, last, h1, h2, h3⟩ | ⟨k, b2, since, last, h1, h2, h3, h4⟩
    · obtain ⟨e1, e2⟩ := hs _ _ h2
      subst h3
      exact .inl ⟨since, last, e1.trans h1, e2, rfl⟩
    · obtain ⟨e1, e2⟩ := hs _ _ h4
      subst h1
      exact .inr ⟨f k, b2, since, last, rfl, hr k b2 (by simp [Ob.refs]) h2, e1.trans h3, e2⟩
  | box cs =>
    obtain ⟨c, E, fz, h1, h2, h3, h4, h5⟩ := h
    obtain ⟨e1, e2⟩ := hs _ _ h3
    refine ⟨c, E, fz, e1.trans h1, h2, e2, by simpa using h4, ?_⟩
    intro q v x hv hx
    simp only [List.getElem?_map, Option.map_eq_some_iff] at hx
    obtain ⟨y, hy, rfl⟩ := hx
    exact ren_relV hk (hc q) (h5 q v y hv hy) fun i b hi hb => hr i b (List.mem_flatMap.2 ⟨y, List.mem_of_getElem? hy, hi⟩) hb
  | map es =>
    obtain ⟨mes, clock, h1, h2, h3, h4⟩ := h
    obtain ⟨e1, e2⟩ := hs _ _ h2
    refine ⟨mes, clock, e1.trans h1, e2, by simpa using h3, ?_⟩
    intro q e p he hp
    simp only [List.getElem?_map, Option.map_eq_some_iff] at hp
    obtain ⟨y, hy, rfl⟩ := hp
    exact ⟨(h4 q e y he hy).1.keep hk, ren_rel hk depth (h4 q e y he hy).2 fun i b hi hb => hr i b (List.mem_flatMap.2 ⟨y, List.mem_of_getElem? hy, hi⟩) hb⟩

/-! ### Merging -/

theorem merge_length : ∀ {ids : List Nat} {s : Store} {l : List Ob}, ids.length ≤ l.length → (merge s ids l).length = s.length + (l.length - ids.length)
  | [], s, [], _ => by simp [merge]
  | [], s, o :: l, _ => by simp [merge]
  | _ :: _, _, [], h => by simp at h
  | i :: ids, s, o :: l, h => by
    simp only [merge]
    rw [merge_length (by simpa using h)]
    simp

/-- What stands behind a merge. -/
theorem merge_get : ∀ {ids : List Nat} {s : Store} {l : List Ob} {i : Nat} {ob : Ob}, ids.length ≤ l.length → nodupB ids = true → (∀ j, j ∈ ids → j < s.length) → (merge s ids l)[i]? = some ob →
    (∃ k : Nat, ids[k]? = some i ∧ l[k]? = some ob) ∨ (i ∉ ids ∧ i < s.length ∧ s[i]? = some ob) ∨ (s.length ≤ i ∧ l[ids.length + (i - s.length)]? = some ob)
  | [], s, [], i, ob, _, _, _, h => by
    simp only [merge] at h
    right; left
    refine ⟨by simp, ?_, h⟩
    rcases Nat.lt_or_ge i s.length with h' | h'
    · exact h'
    · rw [List.getElem?_eq_none h'] at h; simp at h
  | [], s, o :: l, i, ob, _, _, _, h => by
    simp only [merge] at h
    rcases Nat.lt_or_ge i s.length with h' | h'
    · rw [List.getElem?_append_left h'] at h
      exact .inr (.inl ⟨by simp, h', h⟩)
    · rw [List.getElem?_append_right h'] at h
      exact .inr (.inr ⟨h', by simpa using h⟩)
  | _ :: _, _, [], _, _, h, _, _, _ => by simp at h
  | j :: ids, s, o :: l, i, ob, hl, hn, hs, h => by
    simp only [merge] at h
    simp only [nodupB, Bool.and_eq_true, Bool.not_eq_true'] at hn
    have hjl := hs j (by simp)
    rcases merge_get (by simpa using hl) hn.2 (fun q hq => by rw [List.length_set]; exact hs q (by simp [hq])) h with ⟨k, h1, h2⟩ | ⟨h1, h2, h3⟩ | ⟨h1, h2⟩
    · exact .inl ⟨k + 1, by simpa using h1, by simpa using h2⟩
    · rw [List.length_set] at h2
      by_cases hij : i = j
      · subst hij
        rw [List.getElem?_set_self hjl] at h3
        exact .inl ⟨0, by simp, by simpa using h3⟩
      · rw [List.getElem?_set_ne (Ne.symm hij)] at h3
        exact .inr (.inl ⟨by simp [hij, h1], h2, h3⟩)
    · rw [List.length_set] at h1 h2
      refine .inr (.inr ⟨h1, ?_⟩)
      rw [List.length_cons, show ids.length + 1 + (i - s.length) = (ids.length + (i - s.length)) + 1 by omega, List.getElem?_cons_succ]
      exact h2

end
end Go.Vm
end

section
/- Calls, at operations. Conditions: none. -/
namespace Go.Vm

section
variable {P : Program} {gl : Nat → List D} {n0 nt : Nat} {a : Act} {w w' : World} {G G' : Gh} {ρ ρ' : List Nat} {lam lam' : Nat → Option Nat} {st st' : St} {K : St → Prop} {o : Oper} {Q : Exit → Act → World → Prop}

/-- The caller's owners, as the callee sees them. -/
def subL (ids : List Nat) : Loc → Loc
  | .obj i => cond (elemB i ids) (.obj (idxIn i ids)) .foreign
  | .ocell i q => cond (elemB i ids) (.ocell (idxIn i ids) q) .foreign
  | _ => .foreign

/-- The callee's owners, as the caller sees them; 'D': who gets what is returned. -/
def bakL (ids : List Nat) (len : Nat) (D : Loc) : Loc → Loc
  | .obj j => .obj (back ids len j)
  | .ocell j q => .ocell (back ids len j) q
  | .res => D
  | _ => .res

def backG (ids : List Nat) (len : Nat) (D : Loc) (n : Nat) (G G1 : Gh) : Gh := fun b =>
  if b < n then match G b with
    | none => none
    | some (L, m) => if subL ids L = .foreign then some (L, m) else (G1 b).map fun p => (bakL ids len D p.1, p.2)
  else (G1 b).map fun p => (bakL ids len D p.1, p.2)

theorem bakL_ne {ids : List Nat} {len : Nat} {D L : Loc} (hD : D ≠ .foreign) : bakL ids len D L ≠ .foreign := by
  cases L <;> simp [bakL, hD]

section
variable {ids : List Nat} {len : Nat} {D : Loc} {G1 : Gh} (hgood : Good w (relab (subL ids) G) w' G1) (hlt : ∀ b L n, G b = some (L, n) → b < w.heap.size)
 include hgood

theorem backG_of {b : Nat} {L : Loc} {n : Nat} (h : G1 b = some (L, n)) (hL : L ≠ .foreign) : backG ids len D w.heap.size G G1 b = some (bakL ids len D L, n) := by
  unfold backG
  split
  · rename_i hb
    cases hg : G b with
    | none =>
      have := (hgood.imm b hb (.inl (by simp [relab, hg]))).2
      rw [h] at this
      simp [relab, hg] at this
    | some p =>
      obtain ⟨L0, m⟩ := p
      simp only
      split
      · rename_i hf
        have hr : relab (subL ids) G b = some (.foreign, m) := by simp [relab, hg, hf]
        have := (hgood.imm b hb (.inr ⟨m, hr⟩)).2
        rw [h, hr] at this
        simp only [Option.some.injEq, Prod.mk.injEq] at this
        exact absurd this.1 hL
      · simp [h]
  · simp [h]

theorem backG_same {L : Loc} (hL : L ≠ .foreign) : SameL L (bakL ids len D L) w' G1 w' (backG ids len D w.heap.size G G1) :=
  fun _ _ h => ⟨rfl, backG_of hgood h hL⟩

theorem backG_none {b : Nat} (h : G1 b = none) : backG ids len D w.heap.size G G1 b = none := by
  unfold backG
  split
  · rename_i hb
    cases hg : G b with
    | none => rfl
    | some p =>
      obtain ⟨L0, m⟩ := p
      simp only
      split
      · rename_i hf
        have hr : relab (subL ids) G b = some (.foreign, m) := by simp [relab, hg, hf]
        have := (hgood.imm b hb (.inr ⟨m, hr⟩)).2
        rw [hr, h] at this; simp at this
      · rw [h]; rfl
  · rw [h]; rfl

theorem backG_keep1 : Keeps w' G1 w' (backG ids len D w.heap.size G G1) := by
  refine ⟨?_, fun b ks vs h => ⟨backG_none hgood h.1, h.2⟩, fun _ _ h => h⟩
  intro b off v h
  refine ⟨h.1, ?_, h.2.2⟩
  intro L n hG
  unfold backG at hG
  split at hG
  · rename_i hb
    cases hg : G b with
    | none => simp [hg] at hG
    | some p =>
      obtain ⟨L0, m⟩ := p
      simp only [hg] at hG
      split at hG
      · rename_i hf
        simp only [Option.some.injEq, Prod.mk.injEq] at hG
        obtain ⟨rfl, rfl⟩ := hG
        have hr : relab (subL ids) G b = some (.foreign, m) := by simp [relab, hg, hf]
        have := (hgood.imm b hb (.inr ⟨m, hr⟩)).2
        rw [hr] at this
        exact h.2.1 _ _ this
      · cases h1 : G1 b with
        | none => simp [h1] at hG
        | some q =>
          simp only [h1, Option.map_some, Option.some.injEq, Prod.mk.injEq] at hG
          obtain ⟨_, rfl⟩ := hG
          exact h.2.1 _ _ h1
  · cases h1 : G1 b with
    | none => simp [h1] at hG
    | some q =>
      simp only [h1, Option.map_some, Option.some.injEq, Prod.mk.injEq] at hG
      obtain ⟨_, rfl⟩ := hG
      exact h.2.1 _ _ h1

theorem backG_keep : Keeps w G w' (backG ids len D w.heap.size G G1) := ((relab_keeps (subL ids)).trans hgood.keep).trans (backG_keep1 hgood)

 include hlt
theorem backG_own {L : Loc} (hL : subL ids L = .foreign) : SameL L L w G w' (backG ids len D w.heap.size G G1) := by
  intro b n h
  have hb := hlt _ _ _ h
  have hr : relab (subL ids) G b = some (.foreign, n) := by simp [relab, h, hL]
  refine ⟨(hgood.imm b hb (.inr ⟨n, hr⟩)).1, ?_⟩
  simp [backG, hb, h, hL]

 omit hlt in
theorem backG_good (hD : D ≠ .foreign) : Good w G w' (backG ids len D w.heap.size G G1) where
  size := hgood.size
  imm b hb h := by
    rcases h with h | ⟨n, h⟩
    · exact ⟨(hgood.imm b hb (.inl (by simp [relab, h]))).1, by simp [backG, hb, h]⟩
    · have hr : relab (subL ids) G b = some (.foreign, n) := by simp [relab, h, subL]
      exact ⟨(hgood.imm b hb (.inr ⟨n, hr⟩)).1, by simp [backG, hb, h, subL]⟩
  new b n hb h := by
    unfold backG at h
    rw [if_neg (Nat.not_lt.2 hb)] at h
    cases h1 : G1 b with
    | none => simp [h1] at h
    | some q =>
      simp only [h1, Option.map_some, Option.some.injEq, Prod.mk.injEq] at h
      exact bakL_ne hD h.1
  old b n hb h := by
    unfold backG at h
    rw [if_pos hb] at h
    cases hg : G b with
    | none => simp [hg] at h
    | some p =>
      obtain ⟨L0, m⟩ := p
      simp only [hg] at h
      split at h
      · exact h
      · cases h1 : G1 b with
        | none => simp [h1] at h
        | some q =>
          simp only [h1, Option.map_some, Option.some.injEq, Prod.mk.injEq] at h
          exact absurd h.1 (bakL_ne hD)
  keep := backG_keep hgood
  os := hgood.os
  out := hgood.out

 omit hlt in
theorem backG_lt (hlt1 : ∀ b L n, G1 b = some (L, n) → b < w'.heap.size) : ∀ b L n, backG ids len D w.heap.size G G1 b = some (L, n) → b < w'.heap.size := by
  intro b L n h
  rcases Nat.lt_or_ge b w.heap.size with hb | hb
  · exact Nat.lt_of_lt_of_le hb hgood.size
  · unfold backG at h
    rw [if_neg (Nat.not_lt.2 hb)] at h
    cases h1 : G1 b with
    | none => simp [h1] at h
    | some q => exact hlt1 b q.1 q.2 h1
end

/-- What a call of the machine comes to, in the caller's world. -/
theorem callStep_real {f : Nat} {args : List Val} {vs : List Value} {K : Val → Store → Prop} {D : Loc} (p : RelS gl w G ρ lam a.tmps st) (hD : D ≠ .foreign) (hargs : RelL w G ρ vs args) (hs : callStep (AP P gl) f args st.s K) :
    Callable P f ∧ Calls P f ⟨vs⟩ w fun e w' => ∃ v r s' G2 ρ2, e = .returned v ∧ RelV w' G2 ρ2 D v r ∧ RelObs w' G2 ρ2 s' ∧ Good w G w' G2 ∧ (∀ i b : Nat, ρ[i]? = some b → ρ2[i]? = some b) ∧ (∀ b L n, G2 b = some (L, n) → b < w'.heap.size) ∧
      (∀ L, (∀ i q, L ≠ .obj i ∧ L ≠ .ocell i q) → L ≠ .foreign → SameL L L w G w' G2) ∧ RelG gl w' G2 ∧ K r s' := by
  unfold callStep at hs
  obtain ⟨hg, hs⟩ := hs
  simp only [Bool.and_eq_true] at hg
  obtain ⟨⟨⟨hids, hnd⟩, hcl⟩, hno⟩ := hg
  obtain ⟨r, s', hev, hlen, hK⟩ := hs
  have hlen := Nat.le_of_ble_eq_true hlen
  obtain ⟨hcall, hev⟩ := hev
  refine ⟨hcall, ?_⟩
  generalize hidd : reach st.s (st.s.length + st.s.length + 8) (args.flatMap (refs depth)) [] = ids at *
  simp only [closed, Bool.and_eq_true, List.all_eq_true, elemB_iff] at hcl
  obtain ⟨hcl1, hcl2⟩ := hcl
  have hidl : ∀ i, i ∈ ids → i < st.s.length := by
    intro i hi
    have := (List.all_eq_true.1 hids) i hi
    simpa [Nat.blt_eq] using this
  have hρl := p.ob.1
  -- the callee's objects
  let ρs := ids.map fun i => ρ.getD i 0
  have hρs : ∀ (i b : Nat), i ∈ ids → ρ[i]? = some b → ρs[idxIn i ids]? = some b := by
    intro i b hi hb
    simp only [ρs, List.getElem?_map, idxIn_get hi, Option.map_some, List.getD_eq_getElem?_getD, hb, Option.getD_some]
  have hkrel := relab_keeps (w := w) (G := G) (subL ids)
  have hsubo : ∀ i, i ∈ ids → subL ids (.obj i) = .obj (idxIn i ids) := fun i hi => by simp [subL, elemB_iff.2 hi]
  have hsubc : ∀ i q, i ∈ ids → subL ids (.ocell i q) = .ocell (idxIn i ids) q := fun i q hi => by simp [subL, elemB_iff.2 hi]
  have hobs : RelObs w (relab (subL ids) G) ρs (ids.map fun i => (st.s.getD i .dead).ren fun i => idxIn i ids) := by
    refine ⟨by simp [ρs], ?_⟩
    intro k b ob hb hob
    simp only [ρs, List.getElem?_map, Option.map_eq_some_iff] at hb hob
    obtain ⟨i, hi, hgd⟩ := hb
    obtain ⟨i', hi', rfl⟩ := hob
    rw [hi] at hi'
    simp only [Option.some.injEq] at hi'
    subst hi'
    have him : i ∈ ids := List.mem_of_getElem? hi
    have hk := nodupB_get hnd hi
    have hb : ρ[i]? = some (b + 1) := by
      rw [List.getD_eq_getElem?_getD] at hgd
      cases hq : ρ[i]? with
      | none => rw [hq] at hgd; simp at hgd
      | some e => rw [hq] at hgd; simp only [Option.getD_some] at hgd; rw [hgd]
    have h1 := relab_same (w := w) (G := G) (subL ids) (.obj i)
    rw [hsubo i him, hk] at h1
    refine ren_relO hkrel h1 (fun q => ?_) (p.ob.at hb) fun j b' hj hb' => hρs j _ (hcl2 i him j hj) hb'
    have h2 := relab_same (w := w) (G := G) (subL ids) (.ocell i q)
    rwa [hsubc i q him, hk] at h2
  have hargs' := ren_relL (f := fun i => idxIn i ids) (n := depth) (ρ' := ρs) hkrel hargs fun i b hi hb => hρs i _ (hcl1 i hi) hb
  refine (hev w (relab (subL ids) G) ρs vs hobs (p.gb.tr hkrel) (relab_lt p.lt) hargs').mono ?_
  rintro e w' ⟨v, G1, ρ1, rfl, hr, hobs1, hlt1, hgood, hρ1⟩
  -- the numbers of the objects, back in the caller
  have hlen1 : ids.length ≤ s'.length := hlen
  have hρ1l := hobs1.1
  let ρ2 := (ρ.mapIdx fun i e => cond (elemB i ids) (ρ1.getD (idxIn i ids) 0) e) ++ ρ1.drop ids.length
  have hpre : ∀ (i e : Nat), ρ[i]? = some e → ρ2[i]? = some (cond (elemB i ids) (ρ1.getD (idxIn i ids) 0) e) := by
    intro i e hi
    have hl : i < ρ.length := by
      rcases Nat.lt_or_ge i ρ.length with h | h
      · exact h
      · rw [List.getElem?_eq_none h] at hi; simp at hi
    simp only [ρ2]
    rw [List.getElem?_append_left (by simpa using hl), List.getElem?_mapIdx, hi]
    rfl
  have hρ2 : ∀ i b : Nat, ρ[i]? = some b → ρ2[i]? = some b := by
    intro i b hi
    rw [hpre i _ hi]
    cases he : elemB i ids with
    | false => rfl
    | true =>
      simp only [cond_true]
      rw [List.getD_eq_getElem?_getD, hρ1 _ _ (hρs i b (elemB_iff.1 he) hi)]
      rfl
  have hmem : ∀ (j i : Nat), ids[j]? = some i → ρ2[i]? = some (ρ1.getD j 0) := by
    intro j i hj
    have him : i ∈ ids := List.mem_of_getElem? hj
    rw [hpre i _ (List.getElem?_eq_getElem (by rw [hρl]; exact hidl i him)), elemB_iff.2 him, nodupB_get hnd hj]
    rfl
  have hback : ∀ j b : Nat, ρ1[j]? = some (b + 1) → ρ2[back ids st.s.length j]? = some (b + 1) := by
    intro j b hj
    unfold back
    rcases Nat.lt_or_ge j ids.length with hjl | hjl
    · rw [List.getElem?_eq_getElem hjl]
      simp only
      rw [hmem j _ (List.getElem?_eq_getElem hjl), List.getD_eq_getElem?_getD, hj]
      rfl
    · rw [List.getElem?_eq_none hjl]
      simp only [ρ2]
      rw [List.getElem?_append_right (by simp; omega), List.length_mapIdx, hρl, List.getElem?_drop]
      rw [show ids.length + (st.s.length + (j - ids.length) - st.s.length) = j by omega]
      exact hj
  have hk1 := backG_keep1 (len := st.s.length) (D := D) hgood
  refine ⟨v, ren (back ids st.s.length) depth r, merge st.s ids (s'.map (Ob.ren (back ids st.s.length))), backG ids st.s.length D w.heap.size G G1, ρ2, rfl, ?_, ⟨?_, ?_⟩, backG_good hgood hD, hρ2, backG_lt hgood hlt1, ?_, ?_, hK⟩
  · exact ren_relV hk1 (backG_same hgood (L := .res) (by simp)) hr fun i b _ hb => hback i b hb
  · rw [merge_length (by simpa using hlen1)]
    simp only [ρ2, List.length_append, List.length_drop, List.length_map, List.length_mapIdx]
    omega
  · intro i b ob hb hob
    rcases merge_get (by simpa using hlen1) hnd (fun j hj => hidl j hj) hob with ⟨k, h1, h2⟩ | ⟨h1, h2, h3⟩ | ⟨h1, h2⟩
    · -- one that the callee had
      simp only [List.getElem?_map, Option.map_eq_some_iff] at h2
      obtain ⟨ob', hob', rfl⟩ := h2
      have him : i ∈ ids := List.mem_of_getElem? h1
      have hk : ρ1[k]? = some (b + 1) := by
        have := hmem k i h1
        rw [hb] at this
        simp only [Option.some.injEq] at this
        rw [List.getD_eq_getElem?_getD] at this
        cases hq : ρ1[k]? with
        | none => rw [hq] at this; simp at this
        | some e => rw [hq] at this; simp only [Option.getD_some] at this; rw [this]
      have h4 := hobs1.2 k b ob' hk hob'
      have hbk : back ids st.s.length k = i := by simp [back, h1]
      have e1 := backG_same (len := st.s.length) (D := D) hgood (L := .obj k) (by simp)
      simp only [bakL, hbk] at e1
      refine ren_relO hk1 e1 (fun q => ?_) h4 fun j b' _ hb' => hback j b' hb'
      have e2 := backG_same (len := st.s.length) (D := D) hgood (L := .ocell k q) (by simp)
      simpa only [bakL, hbk] using e2
    · -- one that it did not have
      have hb0 : ρ[i]? = some (b + 1) := by
        have := List.getElem?_eq_getElem (show i < ρ.length by rw [hρl]; exact h2)
        have hne : elemB i ids = false := by rw [Bool.eq_false_iff]; intro h; exact h1 (elemB_iff.1 h)
        have h4 := hpre _ _ this
        rw [hb, hne] at h4
        rw [this]; exact h4.symm
      have hne : elemB i ids = false := by rw [Bool.eq_false_iff]; intro h; exact h1 (elemB_iff.1 h)
      exact (p.ob.2 i b ob hb0 h3).tr (backG_keep hgood) (fun i b => hρ2 i (b + 1)) (backG_own hgood p.lt (by simp [subL, hne])) (fun q => backG_own hgood p.lt (by simp [subL, hne]))
    · -- a new one
      simp only [List.getElem?_map, Option.map_eq_some_iff] at h2
      obtain ⟨ob', hob', rfl⟩ := h2
      have hbk : back ids st.s.length (ids.length + (i - st.s.length)) = i := by
        unfold back
        rw [List.getElem?_eq_none (by omega)]
        simp only
        omega
      have hb1 : ρ1[ids.length + (i - st.s.length)]? = some (b + 1) := by
        simp only [ρ2] at hb
        rw [List.getElem?_append_right (by simp; omega), List.length_mapIdx, hρl, List.getElem?_drop] at hb
        exact hb
      have h4 := hobs1.2 _ b ob' hb1 hob'
      have e1 := backG_same (len := st.s.length) (D := D) hgood (L := .obj (ids.length + (i - st.s.length))) (by simp)
      simp only [bakL, hbk] at e1
      refine ren_relO hk1 e1 (fun q => ?_) h4 fun j b' _ hb' => hback j b' hb'
      have e2 := backG_same (len := st.s.length) (D := D) hgood (L := .ocell (ids.length + (i - st.s.length)) q) (by simp)
      simpa only [bakL, hbk] using e2
  · intro L hL hf
    refine backG_own hgood p.lt ?_
    cases L <;> first | rfl | exact absurd rfl (hL _ 0).1 | exact absurd rfl (hL _ _).2
  · exact (p.gb.tr hkrel).tr hgood.keep |>.tr hk1

end
end Go.Vm
end

section
/- Calls as operations. Conditions: none. -/
namespace Go.Vm

section
variable {P : Program} {gl : Nat → List D} {n0 nt : Nat} {a : Act} {w w' : World} {G G' : Gh} {ρ ρ' : List Nat} {lam lam' : Nat → Option Nat} {st st' : St} {K : St → Prop} {o : Oper} {Q : Exit → Act → World → Prop}

theorem callFunc_run {f : Nat} {vs : Array Value} (h : Callable P f) : (callFunc f vs).run P w = .ok (.enter f vs) w := by
  obtain ⟨fn, h1, h2, h3⟩ := h
  have hn : fn.body ≠ none := by intro h; rw [h] at h2; simp at h2
  have h3 : fn.name ≠ "runtime.NumGoroutine" := by simpa using h3
  simp [callFunc, h1, h3, hn]

theorem call_run {f : Nat} {c : Call} {fo : Operand} {ars cs : List Value} (hc : c.callee = .value fo) (hop : o.op = .call c) (hf : a.eval fo = .func (.func f) ⟨ars⟩ ⟨cs⟩) (h : Callable P f) :
    (execOp a.eval o).run P w = .ok (.enter f ⟨ars ++ c.args.toList.map a.eval ++ cs⟩) w := by
  have e : (#[] : Array Value) = ⟨[]⟩ := rfl
  simp only [execOp, hop, Sem.run_bind, resolve, hc, hf, Deferred.ofValue, Sem.run_pure, Result.andThen_ok, invoke]
  rw [callFunc_run h]
  congr 2
  apply Array.ext'; simp

/-- A frame's own part, behind a call. -/
theorem RelS.called {w' : World} {G2 : Gh} {ρ2 : List Nat} {s' : Store} (h : RelS gl w G ρ lam a.tmps st) (hob : RelObs w' G2 ρ2 s') (hgood : Good w G w' G2) (hρ : ∀ i b : Nat, ρ[i]? = some b → ρ2[i]? = some b)
    (hlt : ∀ b L n, G2 b = some (L, n) → b < w'.heap.size) (hs : ∀ L, (∀ i q, L ≠ .obj i ∧ L ≠ .ocell i q) → L ≠ .foreign → SameL L L w G w' G2) (hg : RelG gl w' G2) :
    RelS gl w' G2 ρ2 lam a.tmps { st with s := s' } where
  tm t := (h.tm t).tr hgood.keep (fun i b => hρ i (b + 1)) (fun _ _ h => h) (hs _ (fun _ _ => ⟨by simp, by simp⟩) (by simp))
  bx t cs hb := by
    obtain ⟨b, h1, h2⟩ := h.bx t cs hb
    exact ⟨b, h1, RelBox.tr hgood.keep (fun i b => hρ i (b + 1)) (hs _ (fun _ _ => ⟨by simp, by simp⟩) (by simp)) (fun j => hs _ (fun _ _ => ⟨by simp, by simp⟩) (by simp)) h2⟩
  nb := h.nb
  ob := hob
  gb := hg
  lt := hlt

theorem after_setO {w0 : World} {G0 : Gh} {ρ0 : List Nat} {d : Option Nat} {v : Value} {x : Val} {st : St} (h : RelS gl w G ρ lam a.tmps st) (hd0 : Marks n0 w0 G0 a.defers) (hn : nt ≤ a.tmps.size) (hdt : ∀ t, d = some t → t < nt) (hg : Good w0 G0 w G) (hρ0 : ∀ i b : Nat, ρ0[i]? = some b → ρ[i]? = some b) (hod : o.dst = d)
    (hv : ∀ t, d = some t → RelT w G ρ lam (.slot t) v x) (hK : K (st.setO d x)) : After n0 gl nt w0 G0 ρ0 K (a.put o.dst v) w := by
  cases d with
  | some t => exact after_set h hd0 hn (hdt t rfl) hg hρ0 hod (hv t rfl) hK
  | none => rw [hod]; exact after_mk hd0 rfl hn G ρ lam st h hg hρ0 hK

def dstL : Option Nat → Loc
  | some t => .slot t
  | none => .res

theorem dstL_ne (d : Option Nat) : dstL d ≠ .foreign := by cases d <;> simp [dstL]

theorem args_relV {xs : List Operand} {ys : List O} (p : Pre n0 gl nt w G ρ lam a st) (hx : All2 (fun x y => ∃ t, opd P t x = some y) xs ys) (hno : (ys.map (argV gl st)).all (noL depth) = true) :
    RelL w G ρ (xs.map a.eval) (ys.map (argV gl st)) := by
  induction hx with
  | nil => exact .nil
  | @cons x y xs ys h1 h2 ih =>
    simp only [List.map_cons, List.all_cons, Bool.and_eq_true] at hno
    refine .cons _ _ _ _ ?_ (ih hno.2)
    have h3 : argV gl st y = frz (snap (ev gl st y)) ∨ ∃ sz, y = .c (.own sz []) ∧ argV gl st y = .own sz [] := by
      unfold argV
      split
      · exact .inr ⟨_, rfl, rfl⟩
      · exact .inl rfl
    rcases h3 with h3 | ⟨sz, rfl, h3⟩
    · have := args_rel (xs := [x]) (ys := [y]) p (.cons h1 .nil) (by simp only [List.map_cons, List.map_nil, List.all_cons, List.all_nil, Bool.and_true]; rw [← h3]; exact hno.1)
      rw [h3]
      cases this with
      | cons _ _ _ _ h _ => exact h
    · rw [h3]
      obtain ⟨t, h1⟩ := h1
      obtain ⟨L, hT⟩ := ev_any h1 p.rel
      exact hT

theorem sim_call {d : Option Nat} {f : Nat} {c : Call} {fo : Operand} {ars cs : List Value} {a' c' : List Val} {ys : List O} (p : Pre n0 gl nt w G ρ lam a st) (hod : o.dst = d) (hdt : ∀ t, d = some t → t < nt) (hop : o.op = .call c)
    (hc : c.callee = .value fo) (hf : a.eval fo = .func (.func f) ⟨ars⟩ ⟨cs⟩) (h1 : RelL w G ρ ars a') (h2 : RelL w G ρ cs c') (hx : All2 (fun x y => ∃ t, opd P t x = some y) c.args.toList ys)
    (hs : callStep (AP P gl) f (a' ++ ys.map (argV gl st) ++ c') st.s fun r s' => K ({ st with s := s' }.setO d r)) : o.wp P a w (After n0 gl nt w G ρ K) Q := by
  have hno : (ys.map (argV gl st)).all (noL depth) = true := by
    unfold callStep at hs
    have := hs.1
    simp only [Bool.and_eq_true] at this
    have := this.2
    simp only [List.all_append, Bool.and_eq_true] at this
    exact this.1.2
  obtain ⟨hcall, hC⟩ := callStep_real p.rel (D := dstL d) (dstL_ne d) ((h1.append (args_relV p hx hno)).append h2) hs
  unfold Oper.wp
  rw [call_run hc hop hf hcall, Oper.upon_enter]
  refine hC.mono ?_
  rintro e w' ⟨v, r, s', G2, ρ2, rfl, hr, hob, hgood, hρ, hlt, hsame, hgb, hK⟩
  have hrel := p.rel.called hob hgood hρ hlt hsame hgb
  exact after_setO hrel p.df p.sz hdt hgood hρ hod (fun t ht => by subst ht; exact .of_V hr) hK

theorem sim_cl {d : Option Nat} {c : Call} {fo : Operand} {fo' : O} {t : Nat} {ys : List O} (p : Pre n0 gl nt w G ρ lam a st) (hod : o.dst = d) (hdt : ∀ t, d = some t → t < nt) (hop : o.op = .call c)
    (hc : c.callee = .value fo) (hfo : opd P t fo = some fo') (hx : All2 (fun x y => ∃ t, opd P t x = some y) c.args.toList ys)
    (hs : step (AP P gl) gl (.cl d fo' ys) st K) : o.wp P a w (After n0 gl nt w G ρ K) Q := by
  obtain ⟨L, hf⟩ := ev_any hfo p.rel
  simp only [step] at hs
  split at hs
  · rename_i f he
    rw [he] at hf
    have hf := hf.dat
    have hf : a.eval fo = .func (.func f) ⟨[]⟩ ⟨[]⟩ := by
      generalize a.eval fo = v at hf
      cases hf; rfl
    refine sim_call (a' := []) (c' := []) p hod hdt hop hc hf .nil .nil hx ?_
    simpa using hs
  · rename_i f a0 c0 he
    rw [he] at hf
    have hf' : RelA w G ρ (a.eval fo) (.func f a0 c0) := hf
    generalize hv : a.eval fo = v at hf'
    cases hf' with
    | func _ ars cs _ _ h1 h2 => exact sim_call p hod hdt hop hc hv h1 h2 hx hs
  · exact hs.elim

theorem ren_norefs {f : Nat → Nat} : ∀ (n : Nat) (x : Val), noL n x = true → refs n x = [] → ren f n x = x := by
  intro n
  induction n with
  | zero => intro x h1 h2; cases x <;> simp [noL, refs, ren] at h1 h2 ⊢
  | succ n ih =>
    have hmap : ∀ l : List Val, (∀ x, x ∈ l → noL n x = true) → (∀ x, x ∈ l → refs n x = []) → l.map (ren f n) = l := by
      intro l h1 h2
      induction l with
      | nil => rfl
      | cons x l ihl => rw [List.map_cons, ih x (h1 x (by simp)) (h2 x (by simp)), ihl (fun y hy => h1 y (by simp [hy])) (fun y hy => h2 y (by simp [hy]))]
    intro x h1 h2
    cases x with
    | func g a c =>
      simp only [noL, List.all_append, Bool.and_eq_true, List.all_eq_true] at h1
      simp only [refs, List.flatMap_append, List.append_eq_nil_iff, List.flatMap_eq_nil_iff] at h2
      simp only [ren, hmap a h1.1 h2.1, hmap c h1.2 h2.2]
    | agg cs =>
      simp only [noL, List.all_eq_true] at h1
      simp only [refs, List.flatMap_eq_nil_iff] at h2
      simp only [ren, hmap cs h1 h2]
    | tuple cs =>
      simp only [noL, List.all_eq_true] at h1
      simp only [refs, List.flatMap_eq_nil_iff] at h2
      simp only [ren, hmap cs h1 h2]
    | undef => simp [noL] at h1
    | yl i => simp [noL] at h1
    | lref t off => simp [noL] at h1
    | d x => rfl
    | own sz l => rfl
    | ptr i off => simp [refs] at h2
    | map i => simp [refs] at h2
    | sl i off len cap sz => simp [refs] at h2

theorem sim_cp {d : Option Nat} {c : Call} {f : Nat} {ys : List O} (p : Pre n0 gl nt w G ρ lam a st) (hod : o.dst = d) (hdt : ∀ t, d = some t → t < nt) (hop : o.op = .call c)
    (hc : c.callee = .value (.func f)) (hx : All2 (fun x y => ∃ t, opd P t x = some y) c.args.toList ys)
    (hs : step (AP P gl) gl (.cp d f ys) st K) : o.wp P a w (After n0 gl nt w G ρ K) Q := by
  simp only [step] at hs
  obtain ⟨hg, r, s', hev, hg2, hK⟩ := hs
  simp only [Bool.and_eq_true, List.isEmpty_iff] at hg hg2
  obtain ⟨hcall, hev⟩ := hev
  obtain ⟨hs0, _⟩ := hg2
  subst hs0
  have hf : a.eval (.func f) = .func (.func f) ⟨[]⟩ ⟨[]⟩ := rfl
  unfold Oper.wp
  rw [call_run hc hop hf hcall, Oper.upon_enter]
  have hkrel := relab_keeps (w := w) (G := G) (subL [])
  have hargs := args_rel p hx hg.2
  have hargs' : RelL w (relab (subL []) G) [] (c.args.toList.map a.eval) (ys.map fun x => frz (snap (ev gl st x))) := by
    have := ren_relL (f := id) (n := depth) (ρ' := []) hkrel hargs (fun i b hi => by rw [hg.1] at hi; simp at hi)
    have e : (ys.map fun x => frz (snap (ev gl st x))).map (ren id depth) = ys.map fun x => frz (snap (ev gl st x)) := by
      generalize hl : (ys.map fun x => frz (snap (ev gl st x))) = l at hg
      have h1 := List.all_eq_true.1 hg.2
      have h2 := List.flatMap_eq_nil_iff.1 hg.1
      clear hl hargs this
      induction l with
      | nil => rfl
      | cons x l ih =>
        rw [List.map_cons, ren_norefs depth x (h1 x (by simp)) (h2 x (by simp)), ih ⟨List.flatMap_eq_nil_iff.2 fun y hy => h2 y (by simp [hy]), List.all_eq_true.2 fun y hy => h1 y (by simp [hy])⟩ (fun y hy => h1 y (by simp [hy])) (fun y hy => h2 y (by simp [hy]))]
    rwa [e] at this
  have := hev w (relab (subL []) G) [] _ ⟨rfl, fun i b ob hb => by simp at hb⟩ (p.rel.gb.tr hkrel) (relab_lt p.rel.lt) hargs'
  simp only [List.nil_append, List.append_nil]
  refine this.mono ?_
  rintro e w' ⟨v, G1, ρ1, rfl, hr, hobs1, hlt1, hgood, _⟩
  have hρ1 : ρ1 = [] := by have := hobs1.1; simpa using this
  subst hρ1
  have hk1 := backG_keep1 (len := st.s.length) (D := dstL d) hgood
  have hown : ∀ L, L ≠ .foreign → SameL L L w G w' (backG [] st.s.length (dstL d) w.heap.size G G1) := fun L hL => backG_own hgood p.rel.lt (by cases L <;> first | rfl | exact absurd rfl hL)
  have hrel := p.rel.called (s' := st.s) (ρ2 := ρ) (p.rel.ob.tr (backG_keep hgood) (fun i => hown _ (by simp)) (fun i j => hown _ (by simp))) (backG_good hgood (dstL_ne d)) (fun _ _ h => h) (backG_lt hgood hlt1) (fun L _ hL => hown L hL)
    ((p.rel.gb.tr hkrel).tr hgood.keep |>.tr hk1)
  refine after_setO hrel p.df p.sz hdt (backG_good hgood (dstL_ne d)) (fun _ _ h => h) hod (fun t ht => ?_) hK
  subst ht
  exact .of_V (hr.tr hk1 (fun i b h => by simp at h) (backG_same hgood (L := .res) (by simp)))

end
end Go.Vm
end

section
/- Functions without a body. Conditions: none. -/
namespace Go.Vm

theorem cmpS_eq : ∀ a b : List UInt8, cmpS a b = Lib.compareBytes a b
  | [], [] => rfl
  | [], _ :: _ => rfl
  | _ :: _, [] => rfl
  | a :: x, b :: y => by
    simp only [cmpS, Lib.compareBytes, cmpS_eq x y]
    by_cases h : a < b
    · simp [h]
    · by_cases h2 : b < a <;> simp [h, h2]

theorem find_cmp {fn : Func} (h : fn.name = "internal/bytealg.abigen_runtime_cmpstring") (ho : fn.origin = "") : Extern.findNext fn = none ∧ Extern.find fn = some Extern.BytealgCompare.compare := by
  constructor
  · unfold Extern.findNext
    rw [h, ho]
    have h1 : Extern.allNextRows.lookup "internal/bytealg.abigen_runtime_cmpstring" = none := by kernel_rfl
    have h2 : Extern.allNextRows.lookup "" = none := by kernel_rfl
    simp only [h1, h2]; rfl
  · unfold Extern.find
    rw [h, ho]
    have h1 : Extern.allGenericRows.lookup "internal/bytealg.abigen_runtime_cmpstring" = none := by kernel_rfl
    have h2 : Extern.allTypedRows.lookup "internal/bytealg.abigen_runtime_cmpstring" = none := by kernel_rfl
    have h3 : Extern.allRows.lookup "internal/bytealg.abigen_runtime_cmpstring" = some Extern.BytealgCompare.compare := by kernel_rfl
    simp only [h1, h2, h3]; rfl

section
variable {P : Program} {gl : Nat → List D} {n0 nt : Nat} {a : Act} {w w' : World} {G G' : Gh} {ρ ρ' : List Nat} {lam lam' : Nat → Option Nat} {st st' : St} {K : St → Prop} {o : Oper} {Q : Exit → Act → World → Prop}

theorem sim_x2 {d f k : Nat} {c : Call} {x y : Operand} {x' y' : O} {t1 t2 : Nat} (p : Pre n0 gl nt w G ρ lam a st) (hod : o.dst = some d) (hdt : d < nt) (hop : o.op = .call c) (hc : c.callee = .value (.func f)) (ha : c.args.toList = [x, y])
    (he : extK P f = some k) (hx : opd P t1 x = some x') (hy : opd P t2 y = some y') (hs : step (AP P gl) gl (.x2 d k x' y') st K) : o.wp P a w (After n0 gl nt w G ρ K) Q := by
  obtain ⟨L1, h1⟩ := ev_any hx p.rel
  obtain ⟨L2, h2⟩ := ev_any hy p.rel
  simp only [step] at hs
  split at hs
  · rename_i s1 s2 e1 e2
    rw [e1] at h1; rw [e2] at h2
    obtain ⟨b1, v1, rfl⟩ := h1.str
    obtain ⟨b2, v2, rfl⟩ := h2.str
    split at hs
    · rename_i r hr
      unfold extK at he
      split at he
      · rename_i fn hfn
        split at he
        · rename_i hb
          simp only [Option.some.injEq] at he
          subst he
          simp only [ext2, Option.some.injEq] at hr
          subst hr
          simp only [Bool.and_eq_true, beq_iff_eq] at hb
          obtain ⟨⟨hb, hname⟩, ho⟩ := hb
          obtain ⟨f1, f2⟩ := find_cmp hname ho
          refine p.value hod hdt (v := .int .i64 (Lib.compareBytes b1.data.toList b2.data.toList)) ?_ (.of_A (.d _ _ (by rw [← cmpS_eq]; exact .int _ _))) hs
          have hargs : (c.args.map a.eval) = #[.string b1, .string b2] := by
            apply Array.ext'
            rw [Array.toList_map, ha]
            simp [v1, v2]
          have hf : a.eval (.func f) = .func (.func f) #[] #[] := rfl
          simp only [execOp, hop, Sem.run_bind, resolve, hc, hf, Deferred.ofValue, Sem.run_pure, Result.andThen_ok, invoke]
          have e3 : (#[] : Array Value) ++ c.args.map a.eval ++ #[] = #[.string b1, .string b2] := by rw [hargs]; rfl
          rw [e3, run_callFunc_extern hfn (by rw [hname]; decide) hb f1 f2, Lib.run_compareString]
          rfl
        · simp at he
      · simp at he
    · exact hs.elim
  · exact hs.elim

end
end Go.Vm
end

section
/- Slices that are made as objects; clearing; parts of arrays. Conditions: none. -/
set_option linter.unusedSimpArgs false
namespace Go.Vm

section
variable {P : Program} {gl : Nat → List D} {n0 nt : Nat} {a : Act} {w w' : World} {G G' : Gh} {ρ ρ' : List Nat} {lam lam' : Nat → Option Nat} {st st' : St} {K : St → Prop} {o : Oper} {Q : Exit → Act → World → Prop}

theorem frz_not_own {x : Val} {sz : Nat} {l : List D} : frz (snap x) ≠ .own sz l := by
  intro e
  cases x <;> simp [snap, frz] at e
  rename_i cs2
  cases hfl : frzL cs2 <;> simp [hfl] at e

/-- A value that is laid into cells. -/
theorem laid_cells {t : Nat} {x : Operand} {y : O} (p : Pre n0 gl nt w G ρ lam a st) (hx : opd P t x = some y) (hok : (cellsOf (frz (snap (ev gl st y)))).all cellOk = true) : RelL w G ρ (a.eval x).cells.toList (cellsOf (frz (snap (ev gl st y)))) := by
  have hn : (cellsOf (frz (snap (ev gl st y)))).all (noL depth) = true := by
    rw [List.all_eq_true] at hok ⊢
    intro z hz
    have := hok z hz
    simp only [cellOk, Bool.and_eq_true] at this
    exact this.2
  have hT := (ev_snap (L := .res) hx p.rel).frz (L' := .res)
  rcases hT.cases with h | ⟨t', o', b, e, _, _⟩
  · rcases h.cases with h | ⟨sz, d, l, e, _⟩
    · exact h.cells hn
    · exact absurd e frz_not_own
  · rw [e] at hn; simp [cellsOf, noL] at hn

theorem flat_cells {sz : Nat} (p : Pre n0 gl nt w G ρ lam a st) : ∀ {xs : List Operand} {ys : List O}, All2 (fun x y => ∃ t, opd P t x = some y) xs ys →
    ((ys.map fun x => cellsOf (frz (snap (ev gl st x)))).all fun l => Nat.beq l.length sz && l.all cellOk) = true →
    RelL w G ρ (xs.flatMap fun x => (a.eval x).cells.toList) (ys.map fun x => cellsOf (frz (snap (ev gl st x)))).flatten ∧ (∀ x, x ∈ xs → (a.eval x).cells.size = sz) ∧ (xs.flatMap fun x => (a.eval x).cells.toList).length = ys.length * sz
  | [], _, h, _ => by cases h; exact ⟨.nil, by simp, by simp⟩
  | x :: xs, _, h, hok => by
    cases h with
    | cons h1 h2 =>
      rename_i y ys
      obtain ⟨t, h1⟩ := h1
      simp only [List.map_cons, List.all_cons, Bool.and_eq_true] at hok
      obtain ⟨⟨ha, hb⟩, hc⟩ := hok
      have hr := laid_cells p h1 hb
      have hl := Nat.eq_of_beq_eq_true ha
      obtain ⟨e1, e2, e3⟩ := flat_cells p h2 hc
      have hs : (a.eval x).cells.size = sz := by rw [← Array.length_toList, hr.length, hl]
      refine ⟨?_, ?_, ?_⟩
      · simp only [List.flatMap_cons, List.map_cons, List.flatten_cons]
        exact hr.append e1
      · intro z hz
        rcases List.mem_cons.1 hz with rfl | hz
        · exact hs
        · exact e2 z hz
      · rw [List.flatMap_cons, List.length_append, e3, Array.length_toList, hs, List.length_cons, Nat.add_mul]; omega

theorem sim_lob {d t e n len : Nat} {ps : Array (Nat × Operand)} {ys : List O} {z : List Val} (p : Pre n0 gl nt w G ρ lam a st) (hod : o.dst = some d) (hdt : d < nt) (hop : o.op = .buildSlice t len ps)
    (hu : P.underlying t = some (.slice e)) (hn : szOf P e = some n) (_hpos : 0 < n) (hz : zeros P e = some z) (hidx : ps.toList.map (·.1) = List.range len) (hbig : len * n ≤ 2 ^ 24)
    (hq : All2 (fun x y => ∃ t, opd P t x = some y) (ps.toList.map (·.2)) ys)
    (hs : step (AP P gl) gl (.lob d n ys) st K) : o.wp P a w (After n0 gl nt w G ρ K) Q := by
  obtain ⟨i, zv, h1, h2, h3, h4, h5⟩ := zeros_spec hz
  have hin : i.size = n := by unfold szOf at hn; rw [h1] at hn; simpa using hn
  have hzs : zv.cells.size = n := by omega
  simp only [step] at hs
  obtain ⟨hg, hs⟩ := hs
  simp only [Bool.and_eq_true] at hg
  obtain ⟨e3, e4, e5⟩ := flat_cells p hq hg.2
  have hlen : ps.toList.length = len := by have := congrArg List.length hidx; simpa using this
  have hyl : ys.length = len := by rw [← hlen]; have := All2.length hq; simpa using this.symm
  have hparts : ps.map (fun x => (x.1, a.eval x.2)) = ⟨(List.range' 0 (ps.toList.map fun x => a.eval x.2).length).zip (ps.toList.map fun x => a.eval x.2)⟩ := by
    apply Array.ext'
    rw [Array.toList_map]
    simp only [List.length_map, hlen]
    rw [← List.range_eq_range', ← hidx]
    generalize ps.toList = q
    induction q with
    | nil => rfl
    | cons y ys ih => simp [ih]
  have hfl : ∀ c0 : Array Value, c0.size = len * n → Instr.fill (fun i => some (i * n, n)) c0 (ps.map (fun x => (x.1, a.eval x.2))).toList = some ⟨(ps.toList.map fun x => a.eval x.2).flatMap fun v => v.cells.toList⟩ := by
    intro c0 hc0s
    rw [hparts]
    have := fill_all (sz := n) (ps.toList.map fun x => a.eval x.2) 0 [] c0.toList (by simp) (by simp [hc0s, hlen]) (fun v hv => by
      simp only [List.mem_map] at hv
      obtain ⟨x, hx, rfl⟩ := hv
      exact e4 x.2 (List.mem_map.2 ⟨x, hx, rfl⟩))
    simpa using this
  have hfm : ((ps.toList.map fun x => a.eval x.2).flatMap fun v => v.cells.toList) = (ps.toList.map (·.2)).flatMap fun x => (a.eval x).cells.toList := by
    generalize ps.toList = q
    induction q with
    | nil => rfl
    | cons y ys ih => simp [ih]
  rw [hfm] at hfl
  have hrun : (Instr.buildSlice t len (ps.map fun x => (x.1, a.eval x.2))).run P w = .ok (.slice (some ⟨w.heap.size, 0, none⟩) len len) { w with heap := w.heap.push (.cells ⟨(ps.toList.map (·.2)).flatMap fun x => (a.eval x).cells.toList⟩ e) } := by
    have hnb : ¬ len * n > 2 ^ 24 := by omega
    unfold Instr.buildSlice
    simp only [Sem.run_bind, underlying_run hu, Result.andThen_ok, szOf_run hn, Sem.run_ite, if_neg hnb, Sem.run_pure]
    by_cases h0 : len * n = 0
    · simp only [if_pos h0]
      rw [hfl _ (by simp)]
      simp only [newRow, Sem.run_bind, run_newObj, Result.andThen_ok, Sem.run_pure]
    · simp only [if_neg h0, zeroValue_run h1 h2, Result.andThen_ok]
      rw [hfl _ (by simp)]
      simp only [newRow, Sem.run_bind, run_newObj, Result.andThen_ok, Sem.run_pure]
  have hexec : (execOp a.eval o).run P w = .ok (.value (.slice (some ⟨w.heap.size, 0, none⟩) len len)) { w with heap := w.heap.push (.cells ⟨(ps.toList.map (·.2)).flatMap fun x => (a.eval x).cells.toList⟩ e) } := by
    simp only [execOp, hop, Sem.run_bind, hrun, Result.andThen_ok, Sem.run_pure]
  have hw : Grew w (.cells ⟨(ps.toList.map (·.2)).flatMap fun x => (a.eval x).cells.toList⟩ e) { w with heap := w.heap.push (.cells ⟨(ps.toList.map (·.2)).flatMap fun x => (a.eval x).cells.toList⟩ e) } := ⟨rfl, rfl, rfl⟩
  have hρn : (ρ ++ [w.heap.size + 1])[st.s.length]? = some (w.heap.size + 1) := by rw [← p.rel.ob.1]; simp
  refine wp_value hexec (after_mk p.df (put_defers _ _ _) (by rw [put_size]; exact p.sz) _ (ρ ++ [w.heap.size + 1]) lam _ ?_ (hw.good p.rel.lt (L0 := .obj st.s.length) (n0 := 0) (by simp)) (fun i b h => pre_app i _ h) hs)
  rw [hod]
  refine p.rel.newOb hw (Nat.lt_of_lt_of_le hdt p.sz) ?_ ?_
  · exact RelBox.tr (Keeps.refl _ _) (fun i b h => pre_app i _ h) (fun b n h => ⟨rfl, h⟩) (fun j b n h => ⟨rfl, h⟩) (new_box (LC := .ocell st.s.length) hw e3)
  · rw [hyl]
    refine .sl _ _ _ _ _ _ _ hρn (Nat.le_refl _) ⟨_, e, (0, 0), hw.new, ?_⟩
    simp only [List.size_toArray, e5, hyl]
    omega
 where
  All2.length {α β : Type} {R : α → β → Prop} : ∀ {xs : List α} {ys : List β}, All2 R xs ys → xs.length = ys.length
    | _, _, .nil => rfl
    | _, _, .cons _ h => by simp [All2.length h]

theorem rel_replicate {vs : List Value} {z : List Val} (h : ∀ {w : World} {G : Gh} {ρ : List Nat}, RelL w G ρ vs z) : ∀ n : Nat, RelL w G ρ (List.replicate n vs).flatten (List.replicate n z).flatten
  | 0 => .nil
  | n + 1 => by
    simp only [List.replicate_succ, List.flatten_cons]
    exact h.append (rel_replicate h n)

theorem flat_len {α : Type} {l : List α} : ∀ n : Nat, (List.replicate n l).flatten.length = n * l.length
  | 0 => by simp
  | n + 1 => by simp only [List.replicate_succ, List.flatten_cons, List.length_append, flat_len n]; rw [Nat.add_mul]; omega

theorem zero_rows {zero : Array Value} (h0 : 0 < zero.size) (n : Nat) : ((Array.range (n * zero.size)).map (zero[· % zero.size]!)) = ⟨(List.replicate n zero.toList).flatten⟩ := by
  apply Array.ext'
  apply List.ext_getElem?
  intro j
  have key : ∀ (n : Nat) (j : Nat), (List.replicate n zero.toList).flatten[j]? = if j < n * zero.size then zero.toList[j % zero.size]? else none := by
    intro n
    induction n with
    | zero => intro j; simp
    | succ n ih =>
      intro j
      simp only [List.replicate_succ, List.flatten_cons]
      by_cases hj : j < zero.size
      · rw [List.getElem?_append_left (by simpa using hj), if_pos (by rw [Nat.add_mul]; omega), Nat.mod_eq_of_lt hj]
      · rw [List.getElem?_append_right (by simpa using Nat.not_lt.1 hj), ih]
        simp only [Array.length_toList]
        rw [Nat.mod_eq_sub_mod (Nat.not_lt.1 hj)]
        by_cases hc : j - zero.size < n * zero.size
        · rw [if_pos hc, if_pos (by rw [Nat.add_mul]; omega)]
        · rw [if_neg hc, if_neg (by rw [Nat.add_mul]; omega)]
  simp only [Array.toList_map, Array.toList_range, List.getElem?_map]
  rw [key]
  by_cases hj : j < n * zero.size
  · rw [if_pos hj, List.getElem?_range hj]
    have hm : j % zero.size < zero.size := Nat.mod_lt _ h0
    simp [hm]
  · rw [if_neg hj, List.getElem?_eq_none (by simpa using Nat.not_lt.1 hj)]
    rfl

theorem wrap_small {n : Int} (h0 : 0 ≤ n) (h1 : n ≤ 9223372036854775807) : IntKind.i64.wrap n = n := by
  have h2 : (2 : Int) ^ (64 - 1) = 9223372036854775808 := by decide
  have h3 : (2 : Int) ^ 64 = 18446744073709551616 := by decide
  simp only [IntKind.wrap, IntKind.signed, IntKind.bits, h2, h3, Bool.true_and, decide_eq_true_eq]
  split <;> omega

/-- A slice of zeros. -/
theorem mk_run {t e sz bt : Nat} {z : List Val} {k : IntKind} {n : Int} (hu : P.underlying t = some (.slice e)) (hn : szOf P e = some sz) (hpos : 0 < sz) (hz : zeros P e = some z) (hbt : bytesOf P e = some bt) (hb0 : 0 < bt) (h0 : 0 ≤ n) (h1 : n ≤ ((1099511627776 / bt : Nat) : Int)) :
    ∃ vs : List Value, vs.length = n.toNat * sz ∧ (∀ {w : World} {G : Gh} {ρ : List Nat}, RelL w G ρ vs (List.replicate n.toNat z).flatten) ∧
      (Instr.makeSlice t (.int k n) (.int k n)).run P w = .ok (.slice (some ⟨w.heap.size, 0, none⟩) n.toNat n.toNat) { w with heap := w.heap.push (.cells ⟨vs⟩ e) } := by
  obtain ⟨i, zv, z1, z2, z3, z4, z5⟩ := zeros_spec hz
  have hib : i.bytes = bt := by unfold bytesOf at hbt; rw [z1] at hbt; simpa using hbt
  have hisz : i.size = sz := by unfold szOf at hn; rw [z1] at hn; simpa using hn
  have hzs : zv.cells.size = sz := by omega
  refine ⟨(List.replicate n.toNat zv.cells.toList).flatten, ?_, fun {w G ρ} => rel_replicate z5 _, ?_⟩
  · rw [flat_len, Array.length_toList, hzs]
  · have hle : bt * n.toNat ≤ 1099511627776 := by
      have : n.toNat ≤ 1099511627776 / bt := by omega
      have := Nat.mul_le_mul_left bt this
      exact Nat.le_trans this (Nat.mul_div_le _ _)
    have hnat : (n.toNat : Int) = n := Int.toNat_of_nonneg h0
    have hsm : n ≤ 1099511627776 := by
      have : n.toNat ≤ bt * n.toNat := Nat.le_mul_of_pos_left _ hb0
      omega
    have hw1 : IntKind.i64.wrap n = n := wrap_small h0 (by omega)
    have hti : ∀ w2 : World, (typeInfo e).run P w2 = .ok i w2 := fun w2 => by simp [typeInfo, Sem.run_bind, z1]
    have hai : (asInt (.int k n)).run P w = .ok n w := by simp [asInt, asIntOf]
    have hmul : ((bt : Int)) * n ≤ 1099511627776 := by
      have h2 : (bt : Int) * n = ((bt * n.toNat : Nat) : Int) := by rw [Int.natCast_mul, hnat]
      rw [h2]
      omega
    have hnl : ¬ (n < 0 ∨ (bt : Int) * n > 2 ^ 48) := by
      have h48 : (2 : Int) ^ 48 = 281474976710656 := rfl
      rw [h48]
      omega
    unfold Instr.makeSlice
    simp only [Sem.run_bind, underlying_run hu, Result.andThen_ok, hai, Sem.run_pure, hti, hib, hw1]
    have hc : (decide (n < 0) || decide ((bt : Int) * n > 2 ^ 48) || decide (n < 0) || decide (n > n)) = false := by
      simp only [Bool.or_eq_false_iff, decide_eq_false_iff_not]
      refine ⟨⟨⟨by omega, fun h => hnl (.inr h)⟩, by omega⟩, by omega⟩
    rw [hc]
    simp only [Bool.false_eq_true, if_false, Sem.run_bind, Sem.run_pure, Result.andThen_ok, run_askRoom, szOf_run hn, zeroValue_run z1 z2, Sem.run_ite, newRow, run_newObj]
    by_cases hn0 : n.toNat * sz = 0
    · have : n.toNat = 0 := by
        rcases Nat.mul_eq_zero.1 hn0 with h | h
        · exact h
        · omega
      simp only [this, Nat.zero_mul, if_true, Sem.run_pure, Result.andThen_ok]
      have hr : ∀ f : Nat → Value, Array.map f (Array.range 0) = ⟨[]⟩ := fun f => by apply Array.ext'; simp
      simp only [List.replicate_zero, List.flatten_nil, hr]
    · simp only [if_neg hn0, Result.andThen_ok, Sem.run_pure]
      have := zero_rows (zero := zv.cells) (by omega) n.toNat
      rw [hzs] at this
      rw [hzs, this]

theorem sim_mk {d t e sz bt bnd : Nat} {z : List Val} {l c : Operand} {l' : O} (p : Pre n0 gl nt w G ρ lam a st) (hod : o.dst = some d) (hdt : d < nt) (hop : o.op = .makeSlice t l c) (hlc : a.eval c = a.eval l) (hl : opd P 0 l = some l')
    (hu : P.underlying t = some (.slice e)) (hn : szOf P e = some sz) (hpos : 0 < sz) (hz : zeros P e = some z) (hbt : bytesOf P e = some bt) (hb0 : 0 < bt) (hbnd : bnd = 1099511627776 / bt)
    (hs : step (AP P gl) gl (.mk d sz z l' bnd) st K) : o.wp P a w (After n0 gl nt w G ρ K) Q := by
  obtain ⟨L1, h1⟩ := ev_any hl p.rel
  simp only [step] at hs
  split at hs
  · rename_i k n e1
    rw [e1] at h1
    have hv := h1.int
    obtain ⟨hg, hs⟩ := hs
    simp only [Bool.and_eq_true, decide_eq_true_eq] at hg
    subst hbnd
    obtain ⟨vs, v1, v2, v3⟩ := mk_run (P := P) (w := w) (k := k) hu hn hpos hz hbt hb0 hg.1 hg.2
    have hexec : (execOp a.eval o).run P w = .ok (.value (.slice (some ⟨w.heap.size, 0, none⟩) n.toNat n.toNat)) { w with heap := w.heap.push (.cells ⟨vs⟩ e) } := by
      simp only [execOp, hop, hlc, hv, Sem.run_bind, v3, Result.andThen_ok, Sem.run_pure]
    have hw : Grew w (.cells ⟨vs⟩ e) { w with heap := w.heap.push (.cells ⟨vs⟩ e) } := ⟨rfl, rfl, rfl⟩
    have hρn : (ρ ++ [w.heap.size + 1])[st.s.length]? = some (w.heap.size + 1) := by rw [← p.rel.ob.1]; simp
    refine wp_value hexec (after_mk p.df (put_defers _ _ _) (by rw [put_size]; exact p.sz) _ (ρ ++ [w.heap.size + 1]) lam _ ?_ (hw.good p.rel.lt (L0 := .obj st.s.length) (n0 := 0) (by simp)) (fun i b h => pre_app i _ h) hs)
    rw [hod]
    refine p.rel.newOb hw (Nat.lt_of_lt_of_le hdt p.sz) ?_ ?_
    · exact RelBox.tr (Keeps.refl _ _) (fun i b h => pre_app i _ h) (fun b n h => ⟨rfl, h⟩) (fun j b n h => ⟨rfl, h⟩) (new_box (LC := .ocell st.s.length) hw v2)
    · refine .sl _ _ _ _ _ _ _ hρn (Nat.le_refl _) ⟨_, e, (0, 0), hw.new, ?_⟩
      simp only [List.size_toArray, v1]
      omega
  · exact hs.elim

end
end Go.Vm
end

section
/- Clearing; parts of arrays; bytes under construction; maps without entries gone through. Conditions: none. -/
set_option linter.unusedSimpArgs false
namespace Go.Vm

section
variable {P : Program} {gl : Nat → List D} {n0 nt : Nat} {a : Act} {w w' : World} {G G' : Gh} {ρ ρ' : List Nat} {lam lam' : Nat → Option Nat} {st st' : St} {K : St → Prop} {o : Oper} {Q : Exit → Act → World → Prop}

theorem tuple_rel {v : Value} {L : Loc} (h : v = .tuple #[]) : RelT w G ρ lam L v (.tuple []) := by
  subst h; exact .of_A (.tuple [] [] .nil)

theorem valueO {d : Option Nat} {v : Value} {x : Val} {w' : World} (p : Pre n0 gl nt w G ρ lam a st) (hod : o.dst = d) (hdt : ∀ t, d = some t → t < nt) (hr : (execOp a.eval o).run P w = .ok (.value v) w')
    {st' : St} (h : RelS gl w' G ρ lam a.tmps st') (hg : Good w G w' G) (hv : ∀ L, RelT w' G ρ lam L v x) (hK : K (st'.setO d x)) : o.wp P a w (After n0 gl nt w G ρ K) Q :=
  wp_value hr (after_setO h p.df p.sz hdt hg (fun _ _ h => h) hod (fun _ _ => hv _) hK)

theorem cellRel_one {v : Value} {x : Val} (h : cellRel v x = true) : v.oneCell' = true := by
  unfold cellRel at h
  split at h <;> first | rfl | simp at h

/-- A part of a value of many cells. -/
theorem part_cells {v : Value} {x : Val} {L : Loc} {t off n : Nat} {ag : Bool} (h : RelT w G ρ lam L v x) (hia : isAggV x = true) (hle : off + n ≤ (cellsOf x).length) (hz : szOf P t = some n) (hag : aggOf P t = some ag) (hone : ag = false → n = 1) :
    ∃ (V : Array Value) (u : Value), v = .agg V ∧ (part t V off).run P w = .ok u w ∧ RelA w G ρ u (valOf (cellsOf x) off n ag) := by
  have hagg : ∃ vs, v = .agg ⟨vs⟩ ∧ RelL w G ρ vs (cellsOf x) := by
    cases x <;> simp [isAggV] at hia
    case agg cs =>
      have h1' : RelA w G ρ v (.agg cs) := h
      cases h1'
      rename_i vs h
      exact ⟨vs, rfl, h⟩
    case d y =>
      cases y <;> simp at hia
      have h1' := h.dat
      cases h1'
      rename_i vs h
      exact ⟨vs, rfl, h.toRelL⟩
  obtain ⟨vs, hv, hL⟩ := hagg
  have hl := hL.length
  cases ag with
  | true =>
    refine ⟨⟨vs⟩, .agg ((⟨vs⟩ : Array Value).extract off (off + n)), hv, ?_, ?_⟩
    · simp only [part, Sem.run_bind, aggOf_run hag, Result.andThen_ok, if_true, szOf_run hz, Sem.run_pure]
    · have : (⟨vs⟩ : Array Value).extract off (off + n) = ⟨(vs.drop off).take n⟩ := by
        apply Array.ext'; simp
      rw [this]
      exact frz_agg (LC := fun _ => .res) (by simp [hl]) fun j v y h3 h4 => .of_A (((hL.drop _).take _).get h3 h4)
  | false =>
    obtain rfl : n = 1 := hone rfl
    have hlt : off < vs.length := by omega
    have hlt2 : off < (cellsOf x).length := by omega
    refine ⟨⟨vs⟩, vs[off], hv, ?_, ?_⟩
    · have hg : (⟨vs⟩ : Array Value)[off]? = some vs[off] := by simp [hlt]
      simp only [part, Sem.run_bind, aggOf_run hag, Result.andThen_ok, Bool.false_eq_true, if_false, hg, Sem.run_pure]
    · have hx : (cellsOf x)[off]? = some ((cellsOf x).getD off .undef) := by rw [List.getD_eq_getElem?_getD, List.getElem?_eq_getElem hlt2]; rfl
      exact (RelV.of_A (L := .res) (hL.get (List.getElem?_eq_getElem hlt) hx)).snap

theorem sim_clr {d : Option Nat} {t e t1 : Nat} {x : Operand} {x' : O} {z : List Val} (p : Pre n0 gl nt w G ρ lam a st) (hod : o.dst = d) (hdt : ∀ t, d = some t → t < nt)
    (hop : o.op = .call { callee := .builtin .clear, args := #[x], argTypes := #[t] }) (hx : opd P t1 x = some x') (hu : P.underlying t = some (.slice e)) (hz : zeros P e = some z)
    (hs : step (AP P gl) gl (.clr d x' z) st K) : o.wp P a w (After n0 gl nt w G ρ K) Q := by
  obtain ⟨i1, zv, z1, z2, z3, z4, z5⟩ := zeros_spec hz
  obtain ⟨Lx, hTx⟩ := ev_any hx p.rel
  have hexec : ∀ {w1 : World}, (Builtin.clear_ #[t] o.type #[a.eval x]).run P w = .ok (.tuple #[]) w1 → (execOp a.eval o).run P w = .ok (.value (.tuple #[])) w1 := by
    intro w1 h
    simp only [execOp, hop, resolve, Sem.run_bind, Sem.run_pure, Result.andThen_ok, invoke, builtin, List.map_toArray, List.map_cons, List.map_nil, h]
  have hnone : ∀ ad n c, a.eval x = .slice ad n c → n = 0 → (Builtin.clear_ #[t] o.type #[a.eval x]).run P w = .ok (.tuple #[]) w := by
    intro ad n c hv hn
    subst hn
    rw [hv]
    unfold Builtin.clear_
    cases ad <;> simp only [List.getElem?_toArray, List.getElem?_cons_zero, Sem.run_bind, underlying_run hu, Result.andThen_ok, Sem.run_pure]
  simp only [step] at hs
  split at hs
  · rename_i i off len cap sz e1
    rw [e1] at hTx
    have hA : RelA w G ρ (a.eval x) (.sl i off len cap sz) := hTx
    generalize hv : a.eval x = v at hA
    cases hA with
    | sl _ _ _ _ cap' _ b hρ hcap hSz =>
      split at hs
      · rename_i cs e2
        obtain ⟨hg, hs⟩ := hs
        simp only [Bool.and_eq_true] at hg
        have hzl := Nat.eq_of_beq_eq_true hg.1
        have hle := Nat.le_of_ble_eq_true hg.2
        by_cases hl0 : len = 0
        · subst hl0
          simp only [List.replicate_zero, List.flatten_nil] at hs
          rw [show putCells cs off [] = cs from rfl, set_same e2] at hs
          exact valueO p hod hdt (hexec (hnone _ _ _ hv rfl)) p.rel (Good.refl p.rel.lt) (fun _ => tuple_rel rfl) hs
        · have hbox : RelBox w G ρ b (.obj i) (.ocell i) cs := by have := p.rel.ob.at hρ; rwa [e2] at this
          have hr : RelL w G ρ (List.replicate len zv.cells.toList).flatten (List.replicate len z).flatten := rel_replicate z5 len
          obtain ⟨r1, r2⟩ := p.rel.writesO (off := off) hρ e2 hr
          obtain ⟨c, E, fz, h1, h2, h3, h4, h5⟩ := hbox
          have hfl : (List.replicate len zv.cells.toList).flatten.length = len * sz := by rw [flat_len, Array.length_toList, z3, hzl]
          have hone : ∀ u, u ∈ (List.replicate len zv.cells.toList).flatten → u.oneCell' = true := by
            intro u hu
            simp only [List.mem_flatten, List.mem_replicate] at hu
            obtain ⟨l, ⟨_, rfl⟩, hu⟩ := hu
            exact zero_one hz z1 z2 u hu
          have hstore := run_storeCells_cells (P := P) b off (List.replicate len zv.cells.toList).flatten 0 w
            (fun j hj => by
              rw [Nat.add_zero, cell_of_block h1]
              have : off + j < c.size := by omega
              rw [Array.getElem?_eq_getElem this]; rfl)
            (fun j hj => by
              rw [Nat.add_zero, frozen_of_block h1]
              have : off + j < c.size := by omega
              have := h2 _ this
              simp only [Bool.and_eq_false_imp, decide_eq_true_eq, decide_eq_false_iff_not]
              exact fun e1 e2 => this ⟨e1, e2⟩)
            hone
          rw [Nat.add_zero] at hstore
          have hzc : (Builtin.zeroCells zv.cells len).toList = (List.replicate len zv.cells.toList).flatten := zeroCells_eq len
          have hrun : (Builtin.clear_ #[t] o.type #[a.eval x]).run P w = .ok (.tuple #[]) (w.setCells b off (List.replicate len zv.cells.toList).flatten) := by
            rw [hv]
            unfold Builtin.clear_
            obtain ⟨n, rfl⟩ := Nat.exists_eq_succ_of_ne_zero hl0
            simp only [List.getElem?_toArray, List.getElem?_cons_zero, Sem.run_bind, underlying_run hu, Result.andThen_ok, Sem.run_pure, zeroValue_run z1 z2, hzc, hstore]
          exact valueO p hod hdt (hexec hrun) r1 r2 (fun _ => tuple_rel rfl) hs
      · exact hs.elim
  · split at hs
    · rename_i sz e1
      obtain ⟨ad, cap, v1, _, _⟩ := (hTx.listS e1).slice
      exact valueO p hod hdt (hexec (hnone _ _ _ v1 rfl)) p.rel (Good.refl p.rel.lt) (fun _ => tuple_rel rfl) hs
    · exact hs.elim
 where
  zero_one {e : Nat} {z : List Val} {i : TypeInfo} {zv : Value} (hz : zeros P e = some z) (z1 : P.info? e = some i) (z2 : i.zero = some zv) : ∀ u, u ∈ zv.cells.toList → u.oneCell' = true := by
    intro u hu
    unfold zeros at hz
    simp only [Option.bind_eq_bind, Option.bind_eq_some_iff] at hz
    obtain ⟨cs, h1, i', h2, z', h3, h4⟩ := hz
    rw [z1] at h2
    simp only [Option.some.injEq] at h2
    subst h2
    rw [z2] at h3
    simp only [Option.some.injEq] at h3
    subst h3
    split at h4
    · rename_i hc
      simp only [Bool.and_eq_true, decide_eq_true_eq, List.all_eq_true] at hc
      obtain ⟨⟨hc1, _⟩, hc2⟩ := hc
      obtain ⟨j, hj, rfl⟩ := List.getElem_of_mem hu
      have hj2 : j < cs.length := by rw [← hc1]; simpa using hj
      exact cellRel_one (hc2 (zv.cells.toList[j], cs[j]) (List.mem_iff_getElem?.2 ⟨j, by simp [List.getElem?_zip_eq_some, hj2]⟩))
    · simp at h4
  zeroCells_eq {c : Array Value} (n : Nat) : (Builtin.zeroCells c n).toList = (List.replicate n c.toList).flatten := by
    unfold Builtin.zeroCells
    rcases Nat.eq_zero_or_pos c.size with h0 | h0
    · have : c.toList = [] := by simpa using h0
      rw [this]
      have h2 : (List.replicate n ([] : List Value)).flatten = [] := by simp
      rw [h2, h0]
      simp
    · rw [zero_rows h0]

theorem sim_ax {d t len e n t1 t2 : Nat} {ag : Bool} {x i : Operand} {x' i' : O} (p : Pre n0 gl nt w G ρ lam a st) (hod : o.dst = some d) (hdt : d < nt) (hop : o.op = .index t x i) (hx : opd P t1 x = some x') (hi : opd P t2 i = some i')
    (hu : P.underlying t = some (.array len e)) (hn : szOf P e = some n) (hag : aggOf P e = some ag) (h1n : ag = false → n = 1)
    (hs : step (AP P gl) gl (.ax d x' i' len n ag) st K) : o.wp P a w (After n0 gl nt w G ρ K) Q := by
  obtain ⟨L1, h1⟩ := ev_any hx p.rel
  obtain ⟨L2, h2⟩ := ev_any hi p.rel
  simp only [step] at hs
  split at hs
  · rename_i k m e2
    rw [e2] at h2
    have v2 := h2.int
    obtain ⟨hg, hs⟩ := hs
    simp only [Bool.and_eq_true, decide_eq_true_eq] at hg
    obtain ⟨⟨⟨hg1, hg2⟩, hg3⟩, hg4⟩ := hg
    have hle := Nat.le_of_ble_eq_true hg4
    obtain ⟨V, v, hv1, hrun, hrel⟩ := part_cells (P := P) (off := m.toNat * n) h1 hg3 hle hn hag h1n
    refine p.value hod hdt (v := v) ?_ (.of_A hrel) hs
    simp only [execOp, hop, hv1, v2, Instr.index, asIntOf, Sem.run_bind, Sem.run_pure, Result.andThen_ok, underlying_run hu, if_pos (And.intro hg1 hg2), szOf_run hn, hrun]
  · exact hs.elim

theorem sim_hx {d t e : Nat} {fs : Array Field} (p : Pre n0 gl nt w G ρ lam a st) (hod : o.dst = some d) (hdt : d < nt) (hop : o.op = .alloc t) (_hu : P.underlying t = some (.struct fs))
    (hz : (P.info? t).bind (·.zero) = some (.agg ⟨[.pointer none, .slice none 0 0]⟩)) (hs : step (AP P gl) gl (.hx d t e) st K) : o.wp P a w (After n0 gl nt w G ρ K) Q := by
  cases hi : P.info? t with
  | none => rw [hi] at hz; simp at hz
  | some i =>
    rw [hi] at hz
    simp only [Option.bind_some] at hz
    have hr : (execOp a.eval o).run P w = .ok (.value (.pointer (some ⟨w.heap.size, 0, none⟩))) { w with heap := w.heap.push (.cells #[.pointer none, .slice none 0 0] t) } := by
      simp only [execOp, hop, Instr.alloc, newVar, newRow, Sem.run_bind, zeroValue_run hi hz, Result.andThen_ok, run_newObj, Sem.run_pure]
      rfl
    have hw : Grew w (.cells #[.pointer none, .slice none 0 0] t) { w with heap := w.heap.push (.cells #[.pointer none, .slice none 0 0] t) } := ⟨rfl, rfl, rfl⟩
    simp only [step] at hs
    refine wp_value hr (after_mk p.df (put_defers _ _ _) (by rw [put_size]; exact p.sz) _ (ρ ++ [w.heap.size + 1]) lam _ ?_ (hw.good p.rel.lt (L0 := .obj st.s.length) (n0 := 0) (by simp)) pre_app hs)
    rw [hod]
    have hidx : (ρ ++ [w.heap.size + 1])[st.s.length]? = some (w.heap.size + 1) := by rw [← p.rel.ob.1]; simp
    exact p.rel.newOb hw (Nat.lt_of_lt_of_le hdt p.sz) ⟨.pointer none, .slice none 0 0, hw.new, by rw [newG, upd_self], .inl rfl, .inl ⟨rfl, rfl⟩⟩ (.ptr _ _ _ hidx)

theorem sim_rg {d t t1 kt et : Nat} {x : Operand} {x' : O} (p : Pre n0 gl nt w G ρ lam a st) (hod : o.dst = some d) (hdt : d < nt) (hop : o.op = .range t x) (hx : opd P t1 x = some x') (hu : P.underlying t = some (.map kt et))
    (hs : step (AP P gl) gl (.rg d x') st K) : o.wp P a w (After n0 gl nt w G ρ K) Q := by
  obtain ⟨L1, h1⟩ := ev_any hx p.rel
  have hidx : (ρ ++ [w.heap.size + 1])[st.s.length]? = some (w.heap.size + 1) := by rw [← p.rel.ob.1]; simp
  simp only [step] at hs
  split at hs
  · rename_i e1
    rw [e1] at h1
    have h1' := h1.dat
    generalize hv : a.eval x = v at h1'
    cases h1'
    have hr : (execOp a.eval o).run P w = .ok (.value (.pointer (some ⟨w.heap.size, 0, none⟩))) { w with heap := w.heap.push (.mapIter none 0 #[] 0) } := by
      simp only [execOp, hop, hv, Instr.range, Sem.run_bind, underlying_run hu, Result.andThen_ok, Sem.run_pure, run_newObj]
    have hw : Grew w (.mapIter none 0 #[] 0) { w with heap := w.heap.push (.mapIter none 0 #[] 0) } := ⟨rfl, rfl, rfl⟩
    refine wp_value hr (after_mk p.df (put_defers _ _ _) (by rw [put_size]; exact p.sz) _ (ρ ++ [w.heap.size + 1]) lam _ ?_ (hw.good p.rel.lt (L0 := .obj st.s.length) (n0 := 0) (by simp)) pre_app hs)
    rw [hod]
    exact p.rel.newOb hw (Nat.lt_of_lt_of_le hdt p.sz) (.inl ⟨0, 0, hw.new, by rw [newG, upd_self], rfl⟩) (.ptr _ _ _ hidx)
  · rename_i i e1
    rw [e1] at h1
    have h1' : RelA w G ρ (a.eval x) (.map i) := h1
    generalize hv : a.eval x = v at h1'
    cases h1' with
    | map _ b hb =>
      -- what is ranged over is a map, in whatever state
      by_cases hm : ∃ es clock, w.heap[b]? = some (.map es clock)
      · obtain ⟨es, clock, hm⟩ := hm
        have hgo : (getObj b).run P w = .ok (.map es clock) w := by simp only [getObj, Sem.run, hm]
        have hr : (execOp a.eval o).run P w = .ok (.value (.pointer (some ⟨w.heap.size, 0, none⟩))) { w with heap := w.heap.push (.mapIter (some b) clock #[] clock) } := by
          simp only [execOp, hop, hv, Instr.range, Sem.run_bind, underlying_run hu, Result.andThen_ok, hgo, Sem.run_pure, run_newObj]
        have hw : Grew w (.mapIter (some b) clock #[] clock) { w with heap := w.heap.push (.mapIter (some b) clock #[] clock) } := ⟨rfl, rfl, rfl⟩
        refine wp_value hr (after_mk p.df (put_defers _ _ _) (by rw [put_size]; exact p.sz) _ (ρ ++ [w.heap.size + 1]) lam _ ?_ (hw.good p.rel.lt (L0 := .obj st.s.length) (n0 := 0) (by simp)) pre_app hs.2)
        rw [hod]
        exact p.rel.newOb hw (Nat.lt_of_lt_of_le hdt p.sz) (.inr ⟨i, b, clock, clock, rfl, pre_app _ _ hb, hw.new, by rw [newG, upd_self]⟩) (.ptr _ _ _ hidx)
      · exfalso
        obtain ⟨h2, _⟩ := hs
        have hO := p.rel.ob.at hb
        split at h2
        · rename_i es he
          rw [he] at hO
          obtain ⟨mes, clock, m1, _⟩ := hO
          exact hm ⟨_, _, m1⟩
        · simp at h2
  · exact hs.elim

theorem sim_nx {d t1 : Nat} {x : Operand} {x' : O} (p : Pre n0 gl nt w G ρ lam a st) (hod : o.dst = some d) (hdt : d < nt) (hop : o.op = .next x false) (hx : opd P t1 x = some x')
    (hs : step (AP P gl) gl (.nx d x') st K) : o.wp P a w (After n0 gl nt w G ρ K) Q := by
  obtain ⟨L1, h1⟩ := ev_any hx p.rel
  have hrel : RelT w G ρ lam (.slot d) (.tuple #[.bool false]) (.tuple [.d (.bool false)]) := .of_A (.tuple [.bool false] _ (.cons _ _ _ _ (.d _ _ (.bool false)) .nil))
  simp only [step] at hs
  split at hs
  · rename_i j e1
    rw [e1] at h1
    have h1' : RelA w G ρ (a.eval x) (.ptr j 0) := h1
    generalize hv : a.eval x = v at h1'
    cases h1' with
    | ptr _ _ b hb =>
      have hO := p.rel.ob.at hb
      split at hs
      · rename_i e2
        rw [e2] at hO
        rcases hO with ⟨since, last, m1, m2, _⟩ | ⟨k, b2, since, last, h, _⟩
        · have hgo : (getObj b).run P w = .ok (.mapIter none since #[] last) w := by simp only [getObj, Sem.run, m1]
          refine p.value hod hdt (v := .tuple #[.bool false]) ?_ hrel hs
          simp only [execOp, hop, hv, Instr.next, Sem.run_bind, hgo, Result.andThen_ok, Sem.run_pure]
        · simp at h
      · rename_i i e2
        rw [e2] at hO
        rcases hO with ⟨since, last, m1, m2, h⟩ | ⟨k, b2, since, last, hk, hb2, m1, m2⟩
        · simp at h
        · simp only [Option.some.injEq] at hk
          subst hk
          split at hs
          · rename_i e3
            have hO2 := p.rel.ob.at hb2
            rw [e3] at hO2
            obtain ⟨mes, clock, m3, m4, m5, m6⟩ := hO2
            have hmes : mes = #[] := by simpa using m5
            subst hmes
            have hgo : (getObj b).run P w = .ok (.mapIter (some b2) since #[] last) w := by simp only [getObj, Sem.run, m1]
            have hgo2 : (getObj b2).run P w = .ok (.map #[] clock) w := by simp only [getObj, Sem.run, m3]
            refine p.value hod hdt (v := .tuple #[.bool false]) ?_ hrel hs
            have hr : (execOp a.eval o).run P w = .ok (.value (.tuple #[.bool false])) w := by
              simp only [execOp, hop, hv, Instr.next, Sem.run_bind, hgo, hgo2, Result.andThen_ok, Sem.run_pure, Array.isEmpty_empty, Bool.not_true, Bool.false_and, Bool.and_false, Bool.false_eq_true, if_false, Array.filter_empty, Array.map_empty, if_true, Array.append_empty, run_choose]
              rfl
            exact hr
          · exact hs.elim
      · exact hs.elim
  · exact hs.elim

end
end Go.Vm
end
