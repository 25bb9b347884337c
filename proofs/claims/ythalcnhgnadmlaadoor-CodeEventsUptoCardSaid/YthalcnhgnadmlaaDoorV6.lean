/- Part of a small abstract machine over the kit. Conditions: none. -/
import Derived.Test.YthalcnhgnadmlaaDoorV5
import Derived.Test.YthalcnhgnadmlaaDoorV4
import GoSem.ClaimChange
import Derived.DataReads
import Derived.ChangeArms
import Derived.ChangeSame
import Derived.RowKit
import Derived.Carry
import Derived.ChangeOld
import Derived.ChangeShapes
section
/- Ranges over functions: the iterator's code, and the law of the statement. Conditions: none. -/
namespace Go.Vm

section
variable {P : Program} {gl : Nat → List D} {n0 nt : Nat} {a : Act} {w w' w0 : World} {G G' G0 : Gh} {ρ ρ' ρ0 : List Nat} {lam lam' : Nat → Option Nat} {st st' : St} {o : Oper} {Q : Exit → Act → World → Prop}
variable {O : Option Ex → World → Gh → List Nat → Prop} {Y : Yd Prop} {yi lb : Nat}

theorem pre_len {l l' : List Nat} (h : ∀ i b : Nat, l[i]? = some b → l'[i]? = some b) : l.length ≤ l'.length := by
  rcases Nat.eq_zero_or_pos l.length with h0 | h0
  · omega
  · have hlast : l[l.length - 1]? = some (l[l.length - 1]'(by omega)) := List.getElem?_eq_getElem (by omega)
    have := h _ _ hlast
    rcases Nat.lt_or_ge (l.length - 1) l'.length with h | h
    · omega
    · rw [List.getElem?_eq_none h] at this; simp at this

/-- What is forgotten takes nothing from what is kept. -/
theorem Keep.forget (hk : Keep O ρ0 lb) {p : Option Ex} {n : Nat} (ho : O p w G ρ) (hlt : ∀ b L n, G b = some (L, n) → b < w.heap.size) (hn : ρ0.length ≤ n) {ρ2 : List Nat} (h : ρ2 = ρ ∨ ρ2 = ρ.take n) : O p w G ρ2 := by
  refine hk.run _ _ _ _ _ _ _ ho (Good.refl hlt) fun i b hi => ?_
  have h1 := hk.pre _ _ _ _ ho i b hi
  rcases h with rfl | rfl
  · exact h1
  · refine take_get ?_ h1
    rcases Nat.lt_or_ge i ρ0.length with h | h
    · omega
    · rw [List.getElem?_eq_none h] at hi; simp at hi

theorem loop_postY {K : Ex → St → Option Ex → Prop} (hk : Keep O ρ0 lb) {ts bs : List Nat} {I : Nat → St → Prop} {n N : Nat} (hN : ρ0.length ≤ N) {e : Exit} {a' : Act} {w' : World}
    (h : PostY n0 gl nt O (fun x st p => match x with | .normal => (AP P gl).guard p.isNone (Vm.forget (AP P gl) N ts bs st (fun st' => ∃ m, m < n ∧ I m st')) | x => K x st p) e a' w') :
    Exit.then (fun a' w' => ∃ m, m < n ∧ ∃ G ρ lam st, Pre n0 gl nt w' G ρ lam a' st ∧ O none w' G ρ ∧ I m st) (PostY n0 gl nt O K) e a' w' := by
  cases e with
  | normal =>
    obtain ⟨e2, G', ρ', lam', st', p', e1, e3, e4, hp, hkk, m, hm, hI⟩ := h
    have hpn : p' = none := by simpa using hp
    subst hpn
    have p : Pre n0 gl nt w' G' ρ' lam' a' st' := ⟨e3, e1, e2⟩
    obtain ⟨ρ2, lam2, p2, hρ⟩ := p.forget (n := N) hkk
    exact ⟨m, hm, G', ρ2, lam2, _, p2, hk.forget e4 e3.lt hN hρ, hI⟩
  | exit i => exact h
  | ret => exact h
  | _ => exact h.elim

theorem seq_postY {n : Nat} {K : Ex → St → Option Ex → Prop} {b : VC} {y : Code} (hy : ∀ {w : World} {G : Gh} {ρ : List Nat} {lam : Nat → Option Nat} {a : Act} {st : St} {pp : Option Ex}, Pre n0 gl nt w G ρ lam a st → O pp w G ρ →
      runY (AP P gl) gl Y yi b st pp K → y.wpIn Fence.wide n P (PostY n0 gl nt O K) a w) {e : Exit} {a' : Act} {w' : World}
    (h : PostY n0 gl nt O (fun x st p => match x with | .normal => runY (AP P gl) gl Y yi b st p K | x => K x st p) e a' w') :
    Exit.then (y.wpIn Fence.wide n P (PostY n0 gl nt O K)) (PostY n0 gl nt O K) e a' w' := by
  cases e with
  | normal =>
    obtain ⟨e2, G', ρ', lam', st', p', e1, e3, e4, e5⟩ := h
    exact hy ⟨e3, e1, e2⟩ e4 e5
  | exit i => exact h
  | ret => exact h
  | _ => exact h.elim

theorem block_postY {K : Ex → St → Option Ex → Prop} {i : Nat} {e : Exit} {a' : Act} {w' : World}
    (h : PostY n0 gl nt O (fun x st p => match x with | .exit j => cond (Nat.beq j i) (K .normal st p) (K (.exit j) st p) | x => K x st p) e a' w') : Exit.inBlock i (PostY n0 gl nt O K) e a' w' := by
  cases e with
  | normal => exact h
  | ret => exact h
  | exit j =>
    obtain ⟨e2, G', ρ', lam', st', p', e1, e3, e4, e6⟩ := h
    simp only at e6
    simp only [Exit.inBlock]
    by_cases hj : j = i
    · subst hj
      simp only [Nat.beq_refl, cond] at e6
      simp only [if_true]
      exact ⟨e2, G', ρ', lam', st', p', e1, e3, e4, e6⟩
    · have : Nat.beq j i = false := by rw [Bool.eq_false_iff]; intro h'; exact hj (Nat.eq_of_beq_eq_true h')
      simp only [this, cond] at e6
      simp only [hj, if_false]
      exact ⟨e2, G', ρ', lam', st', p', e1, e3, e4, e6⟩
  | _ => exact h.elim

/-- An iterator's code. -/
theorem sim_codeY (hany : AnyLaw P gl) {n : Nat} {an : Ann} {m : AMap} (hY : YieldOk P gl O Y lb (n - 1)) (hk : Keep O ρ0 lb) (hyi : ρ0[yi]? = some lb) :
    ∀ (c : Code) {l l' : List (List Nat × List Nat)} {vc : VC} {w : World} {G : Gh} {ρ : List Nat} {lam : Nat → Option Nat} {a : Act} {st : St} {pp : Option Ex} {K : Ex → St → Option Ex → Prop},
    compC P an nt m c l = some (vc, l') → Pre n0 gl nt w G ρ lam a st → O pp w G ρ → runY (AP P gl) gl Y yi vc st pp K → c.wpIn Fence.wide n P (PostY n0 gl nt O K) a w := by
  intro c
  induction c with
  | skip =>
    intro l l' vc w G ρ lam a st pp K hc p ho hr
    simp only [compC, Option.some.injEq, Prod.mk.injEq] at hc
    obtain ⟨rfl, rfl⟩ := hc
    exact wpIn_skip (p.afterY ho hr)
  | region id ops dr =>
    intro l l' vc w G ρ lam a st pp K hc p ho hr
    simp only [compC] at hc
    split at hc
    · rename_i is his
      cases dr with
      | true =>
        simp only [if_true, Option.ite_none_right_eq_some, Option.some.injEq, Prod.mk.injEq] at hc
        obtain ⟨hok, rfl, rfl⟩ := hc
        refine wpIn_wide.2 (wp_mono (hany (K := fun e st => K e st pp) his hok p hr) fun e a' w' h => ?_)
        cases e with
        | normal => exact after_Y (K := K .normal) hk ho h
        | exit i => exact after_Y (K := K (.exit i)) hk ho h
        | ret => exact after_Y (K := K .ret) hk ho h
        | _ => exact h.elim
      | false =>
        simp only [Bool.false_eq_true, if_false, Option.some.injEq, Prod.mk.injEq] at hc
        obtain ⟨rfl, rfl⟩ := hc
        refine wpIn_region ?_
        have : List.range ops.size = List.range' 0 ops.toList.length := by rw [List.range_eq_range', Array.length_toList]
        rw [this]
        exact sim_opsY hY hk hyi (fun j => by simp) his p ho hr fun a' w' h => h
    · simp at hc
  | seq x y ihx ihy =>
    intro l l' vc w G ρ lam a st pp K hc p ho hr
    simp only [compC] at hc
    split at hc
    · rename_i vx l1 hx
      split at hc
      · rename_i vy l2 hy
        simp only [Option.some.injEq, Prod.mk.injEq] at hc
        obtain ⟨rfl, rfl⟩ := hc
        refine wpIn_seq (wpIn_mono (ihx hx p ho hr) fun e a w h => ?_)
        exact seq_postY (fun p ho hr => ihy hy p ho hr) h
      · simp at hc
    · simp at hc
  | cond c x y ihx ihy =>
    intro l l' vc w G ρ lam a st pp K hc p ho hr
    simp only [compC] at hc
    split at hc
    · rename_i vx co l1 hoo hx
      split at hc
      · rename_i vy l2 hy
        simp only [Option.some.injEq, Prod.mk.injEq] at hc
        obtain ⟨rfl, rfl⟩ := hc
        simp only [runY] at hr
        obtain ⟨L, hT⟩ := ev_any hoo p.rel
        split at hr
        · rename_i t ht
          rw [ht] at hT
          cases t with
          | true => exact wpIn_cond_true hT.bool (ihx hx p ho hr)
          | false => exact wpIn_cond_false hT.bool (ihy hy p ho hr)
        · exact hr.elim
      · simp at hc
    · simp at hc
  | block i b ih =>
    intro l l' vc w G ρ lam a st pp K hc p ho hr
    simp only [compC] at hc
    split at hc
    · rename_i vb l1 hb
      simp only [Option.some.injEq, Prod.mk.injEq] at hc
      obtain ⟨rfl, rfl⟩ := hc
      exact wpIn_block (wpIn_mono (ih hb p ho hr) fun e a w h => block_postY h)
    · simp at hc
  | loop b ih =>
    intro l l' vc w G ρ lam a st pp K hc p ho hr
    cases l with
    | nil => simp [compC] at hc
    | cons q l =>
      obtain ⟨ts, bs⟩ := q
      simp only [compC] at hc
      split at hc
      · rename_i vb l1 hb
        simp only [Option.some.injEq, Prod.mk.injEq] at hc
        obtain ⟨rfl, rfl⟩ := hc
        simp only [runY] at hr
        obtain ⟨hp, hkk, I, n, h0, hround⟩ := hr
        have hpn : pp = none := by simpa using hp
        subst hpn
        obtain ⟨ρ2, lam2, p2, hρ⟩ := p.forget (n := st.s.length) hkk
        have hlen : ∀ {w : World} {G : Gh} {ρ : List Nat} {lam : Nat → Option Nat} {a : Act} {st : St}, Pre n0 gl nt w G ρ lam a st → O none w G ρ → ρ0.length ≤ st.s.length := fun p ho => by
          rw [← p.rel.ob.1]; exact pre_len (hk.pre _ _ _ _ ho)
        refine wpIn_wide.2 (wp_loop_ghost (fun n a w => ∃ G ρ lam st, Pre n0 gl nt w G ρ lam a st ∧ O none w G ρ ∧ I n st) n ⟨G, ρ2, lam2, _, p2, hk.forget ho p.rel.lt (hlen p ho) hρ, h0⟩ ?_)
        rintro n1 a1 w1 ⟨G1, ρ1, lam1, st1, p1, f1, hI⟩
        refine wp_mono (wpIn_wide.1 (ih hb p1 f1 (hround n1 st1 hI))) fun e a' w' h => ?_
        exact loop_postY hk (hlen p1 f1) h
      · simp at hc
  | exit i =>
    intro l l' vc w G ρ lam a st pp K hc p ho hr
    simp only [compC, Option.some.injEq, Prod.mk.injEq] at hc
    obtain ⟨rfl, rfl⟩ := hc
    exact wpIn_exit (p.afterY ho hr)
  | ret =>
    intro l l' vc w G ρ lam a st pp K hc p ho hr
    simp only [compC, Option.some.injEq, Prod.mk.injEq] at hc
    obtain ⟨rfl, rfl⟩ := hc
    exact wpIn_ret (p.afterY ho hr)
  | rangeFunc g ps x y _ _ =>
    intro l l' vc w G ρ lam a st pp K hc p ho hr
    simp only [compC] at hc
    split at hc
    · simp only [Option.ite_none_right_eq_some, Option.some.injEq, Prod.mk.injEq] at hc
      obtain ⟨_, rfl, _⟩ := hc
      exact hr.elim
    · simp at hc
  | scope _ => intro l l' vc w G ρ lam a st pp K hc; simp [compC] at hc
  | label _ => intro l l' vc w G ρ lam a st pp K hc; simp [compC] at hc
  | goto _ => intro l l' vc w G ρ lam a st pp K hc; simp [compC] at hc
  | refuse _ => intro l l' vc w G ρ lam a st pp K hc; simp [compC] at hc

end
end Go.Vm
end

section
/- Ranges over functions: the law of the statement. Conditions: none. -/
namespace Go.Vm

section
variable {P : Program} {gl : Nat → List D} {n0 nt : Nat} {a : Act} {w w' w0 : World} {G G' G0 : Gh} {ρ ρ' ρ0 : List Nat} {lam lam' : Nat → Option Nat} {st st' : St} {o : Oper} {Q : Exit → Act → World → Prop}

def RecOk (r0 : Loop) (p : Option Ex) (r : Loop) : Prop :=
  ∃ c : Option Code, r = { r0 with state := if c.isNone then .ready else .done, pending := c } ∧ (∀ j, c = some j → (jumpEx j).isSome = true) ∧ p = c.bind jumpEx

theorem RecOk.none {r0 r : Loop} (h1 : r0.state = .ready) (h2 : r0.pending = none) (h : RecOk r0 none r) : r = r0 := by
  obtain ⟨c, rfl, hj, hp⟩ := h
  cases c with
  | none => cases r0; simp only at h1 h2; subst h1 h2; rfl
  | some j =>
    have := hj j rfl
    simp only [Option.bind_some] at hp
    rw [← hp] at this
    simp at this

/-- What is kept of the function that ranges. -/
def Kept (w0 : World) (G0 : Gh) (ρ0 : List Nat) (a : Act) (tm0 : Nat → Val) (r0 : Loop) (p : Option Ex) (W : World) (G : Gh) (ρ : List Nat) : Prop :=
  (∃ r, RecOk r0 p r ∧ Still w0 G0 ρ0 a tm0 r W G ρ) ∧ ∀ i b : Nat, (ρ0 ++ [w0.heap.size + 1])[i]? = some b → ρ[i]? = some b

theorem kept_keep {tm0 : Nat → Val} {r0 : Loop} : Keep (Kept w0 G0 ρ0 a tm0 r0) (ρ0 ++ [w0.heap.size + 1]) (w0.heap.size + 1) where
  run p W G ρ W' G' ρ' h hg hp := by
    obtain ⟨⟨r, h1, h2⟩, _⟩ := h
    exact ⟨⟨r, h1, h2.run hg fun i b hi => hp i b (pre_app i b hi)⟩, hp⟩
  pre p W G ρ h := h.2
  rcd p W G ρ h := by obtain ⟨⟨r, h1, h2⟩, _⟩ := h; exact ⟨r, h2.rcd⟩

theorem zip_setV (ps : List Nat) (vs : List Value) (tmps : Array Value) :
    (((⟨ps⟩ : Array Tmp).zip (⟨vs⟩ : Array Value)).foldl (fun tmps (x : Tmp × Value) => match x with | (t, a) => tmps.setIfInBounds t a) tmps) = setV tmps ps vs := setV_fold ps vs tmps

/-- The rounds keep their word. -/
theorem rounds_ok {an : Ann} {m : AMap} {x y : Code} {l1 l2 l3 l4 : List (List Nat × List Nat)} {va vb : VC} (ha : compC P an nt m x l1 = some (va, l2)) (hb : compC P an nt m y l3 = some (vb, l4)) (hpa : plainV va = true) (hpb : plainV vb = true)
    {r0 : Loop} {st0 : St} (hbx : st0.bx = fun _ => none) (hst : r0.state = .ready) (hpend : r0.pending = none) (ht : r0.tmps = a.tmps) {ps : List Nat} (hps0 : r0.params = ⟨ps⟩) (hx : r0.assign = x) (hy : r0.body = y) (hps : ∀ p, p ∈ ps → p < a.tmps.size) (hsz : nt ≤ a.tmps.size) (n : Nat) :
    YieldOk P gl (Kept w0 G0 ρ0 a st0.tm r0) (roundY (AP P gl) (run (AP P gl) gl va) (run (AP P gl) gl vb) ps st0) (w0.heap.size + 1) n := by
  intro W G ρ s vs xs KB hk hw hrel hY
  obtain ⟨⟨r, hr, hst'⟩, hpre⟩ := hk
  obtain rfl := hr.none hst hpend
  have hlen : xs.length = ps.length := by
    have := hY.1
    exact Nat.eq_of_beq_eq_true this
  have hlen' : vs.length = ps.length := hrel.length.trans hlen
  refine ⟨r.fn, _, r.assign, r.body, run_yield hst'.rcd (by rw [hps0]; simpa using hlen'), ?_⟩
  have hY' : roundY (AP P gl) (run (AP P gl) gl va) (run (AP P gl) gl vb) ps ⟨st0.tm, fun _ => none, s⟩ xs s KB := by
    unfold roundY at hY ⊢
    rw [hbx] at hY
    exact hY
  have := round_sim (n := n) (f := r.fn) ha hb hpa hpb hst hpend hst' hw hps hsz hrel hY'
  rw [hps0, ht, hx, hy, zip_setV]
  refine this.mono ?_
  rintro e W' ⟨c, G', ρ', s', rfl, h1, h2, h3, h4, h5, h6, h7⟩
  refine ⟨c.bind jumpEx, G', ρ', s', ?_, ⟨⟨_, ⟨c, rfl, h1, rfl⟩, h2⟩, fun i b hi => h6 i b (hpre i b hi)⟩, h3, h4, h5, h6, h7⟩
  cases c with
  | none => rfl
  | some j =>
    have := h1 j rfl
    simp only [Option.bind_some, Option.isNone_some]
    cases hj : jumpEx j with
    | none => rw [hj] at this; simp at this
    | some _ => rfl

/-- The iterator leaves, with marks. -/
theorem leaves_marksY {tm0 : Nat → Val} {r : Loop} {a0 : Act} {fn : Func} {tmps : Array Value} {R : Ending → World → Prop} : ∀ (Ds : List Nat) {w : World}, RelS gl w G ρ lam tmps st → Still w0 G0 ρ0 a0 tm0 r w G ρ → Marks (w0.heap.size + 2) w G (Ds.map mark) →
    (∀ w, RelS gl w G ρ lam tmps st → Still w0 G0 ρ0 a0 tm0 r w G ρ → ∃ v, (results fn tmps).run P w = .ok v w ∧ R (.returned v) w) → LeavesInM Fence.wide 0 P fn tmps R (Ds.map mark) .returning w
  | [], w, p, g, _, h => h w p g
  | D :: Ds, w, p, g, hm, h => by
    obtain ⟨h1, h2, h3, h4, h5⟩ := hm.tail
    refine ⟨by simp, .inl ⟨D, w.putObj D (.deferred none), rfl, run_takeDeferred h3, ?_⟩⟩
    refine leaves_marksY Ds (p.putObj h3 rfl h4) ?_ ?_ h
    · exact ⟨fun t => (g.tm t).keep (put_keeps h3 rfl) fun _ _ h => h, ⟨g.far.good.putObj h3 rfl (by omega), g.far.pre⟩, (World.putObj_heap_other (by omega)).trans g.rcd, g.rcdG, (World.putObj_heap_other (by omega)).trans g.blk, g.blkG⟩
    obtain ⟨Es, e1, e2, e3⟩ := h5
    refine ⟨Es, e1, e2, fun E hE => ?_⟩
    obtain ⟨f1, f2, f3⟩ := e3 E hE
    have hne : E ≠ D := by
      intro e
      subst e
      have hEs : mark E ∈ Ds.map mark := by rw [e1]; exact List.mem_map_of_mem hE
      obtain ⟨x, hx, he⟩ := List.mem_map.1 hEs
      simp only [mark, Deferred.mk.injEq, Target.collected.injEq, and_true] at he
      exact h1 (he ▸ hx)
    exact ⟨f1, (World.putObj_heap_other hne).trans f2, f3⟩

theorem range_sim (hany : AnyLaw P gl) {an : Ann} {m : AMap} {f : Operand} {ps : List Nat} {x y : Code} {l1 l2 l3 l4 : List (List Nat × List Nat)} {va vb : VC} {K : Ex → St → Prop}
    (ha : compC P an nt m x l1 = some (va, l2)) (hb : compC P an nt m y l3 = some (vb, l4)) (hpa : plainV va = true) (hpb : plainV vb = true)
    (hps : ∀ p, p ∈ ps → p < a.tmps.size) (p : Pre n0 gl nt w G ρ lam a st) (hn : n0 ≤ w.heap.size) {g : Nat} {cs : List Value} {caps : List Val} (hf : a.eval f = .func (.func g) #[] ⟨cs⟩) (hcs : RelL w G ρ cs caps)
    (hr : iterY (AP P gl) gl (run (AP P gl) gl va) (run (AP P gl) gl vb) ps g caps st K) : (Code.rangeFunc f ⟨ps⟩ x y).wp P (Post n0 gl nt w G ρ K) a w := by
  obtain ⟨vf, ⟨fnn, an2, hfn, hname, hcf⟩, hres, hr⟩ := hr
  have hcall : Callable P g := by
    unfold compF at hcf
    simp only [Option.bind_eq_bind, Option.bind_eq_some_iff] at hcf
    obtain ⟨c, hb, _⟩ := hcf
    exact ⟨fnn, hfn, by rw [hb]; rfl, hname⟩
  refine (wpIn_wide (n := 1)).1 (wpIn_rangeFunc fun fn _ => ?_)
  obtain ⟨r, hrd⟩ : ∃ r : Loop, r = { state := .ready, pending := none, fn, tmps := a.tmps, params := ⟨ps⟩, assign := x, body := y, defers := w.heap.size } := ⟨_, rfl⟩
  obtain ⟨W1, hW1⟩ : ∃ W1, W1 = (w.alloc (.deferred (some []))).alloc (.loop r) := ⟨_, rfl⟩
  have lt1 : ∀ b L n, G b = some (L, n) → b < (w.alloc (.deferred (some []))).heap.size := fun b L n h => by rw [World.size_alloc]; have := p.rel.lt b L n h; omega
  have k2 : Keeps w G W1 G := by rw [hW1]; exact (alloc_keeps (w := w) (G := G) (.deferred (some []))).trans (alloc_keeps (w := w.alloc (.deferred (some []))) (G := G) (.loop r))
  have g1 : Good w G W1 G := by rw [hW1]; exact (alloc_good (w := w) (.deferred (some [])) p.rel.lt).trans (alloc_good (w := w.alloc (.deferred (some []))) (.loop r) lt1)
  have s1 : ∀ L, SameL L L w G W1 G := fun L b n hb => by
    rw [hW1]
    exact ⟨(alloc_same (w := w.alloc (.deferred (some []))) (.loop r) lt1 L b n hb).1.trans (alloc_same (w := w) (.deferred (some [])) p.rel.lt L b n hb).1, hb⟩
  have hsz1 : W1.heap.size = w.heap.size + 2 := by rw [hW1, World.size_alloc, World.size_alloc]
  have hGn : ∀ b, w.heap.size ≤ b → G b = none := by
    intro b hb
    cases hg : G b with
    | none => rfl
    | some q => exact absurd (p.rel.lt b q.1 q.2 hg) (Nat.not_lt.2 hb)
  have still : Still w G ρ a st.cool.tm r W1 G ρ := by
    refine ⟨fun t => (cool_rel (p.rel.tm t)).keep k2 fun _ _ h => h, ⟨g1, fun _ _ h => h⟩, ?_, hGn _ (by omega), ?_, hGn _ (Nat.le_refl _)⟩
    · have := World.alloc_heap_new (w.alloc (.deferred (some []))) (.loop r)
      rw [World.size_alloc] at this
      rw [hW1]; exact this
    · rw [hW1, Go.RowKit.Below.heap_alloc _ _ _ (by rw [World.size_alloc]; omega)]
      exact World.alloc_heap_new w _
  have hlt1 : ∀ b L n, G b = some (L, n) → b < W1.heap.size := fun b L n h => by rw [hsz1]; have := p.rel.lt b L n h; omega
  refine ⟨w.heap.size + 1, [mark w.heap.size], W1, { target := .fn (.func g) ⟨cs⟩, args := #[.func (.yield (w.heap.size + 1)) #[] #[]] }, W1, g, ⟨.func (.yield (w.heap.size + 1)) #[] #[] :: cs⟩, W1, ?_, ?_, fun _ _ => trivial, ?_, fun h => by simp [Fence.wide] at h, ?_⟩
  · rw [hW1, hrd]; exact run_enterLoop_outer _ _ _ _ _
  · simp only [resolve, hf]
    simp [go_sem]
  · simp only [invoke]
    rw [callFunc_run hcall]
    congr 2
    apply Array.ext'; simp
  · -- the iterator's call
    unfold compF at hcf
    simp only [Option.bind_eq_bind, Option.bind_eq_some_iff] at hcf
    obtain ⟨c, hb2, ⟨vc, l'⟩, hcc, rs, hrs, hvf⟩ := hcf
    simp only [Option.some.injEq] at hvf
    subst hvf
    simp only [List.isEmpty_iff] at hres
    subst hres
    refine callsIn_of_wp_marks (n := 0) hfn hb2 trivial ?_
    have hob1 : RelObs W1 G (ρ ++ [w.heap.size + 1]) (st.s ++ [.dead]) := by
      have h0 := p.rel.ob.tr (w' := W1) (G' := G) k2 (fun i => s1 _) (fun i j => s1 _)
      refine ⟨by simp [h0.1], fun i b o hb ho => ?_⟩
      rcases Nat.lt_or_ge i st.s.length with hi | hi
      · rw [List.getElem?_append_left hi] at ho
        rw [List.getElem?_append_left (by rw [h0.1]; exact hi)] at hb
        exact (h0.2 i b o hb ho).tr (Keeps.refl _ _) pre_app (fun _ _ h => ⟨rfl, h⟩) (fun _ _ _ h => ⟨rfl, h⟩)
      · rw [List.getElem?_append_right hi] at ho
        have : i - st.s.length = 0 := by
          rcases Nat.eq_zero_or_pos (i - st.s.length) with h | h
          · exact h
          · rw [List.getElem?_eq_none (by simp; omega)] at ho; simp at ho
        rw [this] at ho
        simp at ho
        subst ho
        trivial
    have hval : RelL W1 G (ρ ++ [w.heap.size + 1]) (.func (.yield (w.heap.size + 1)) #[] #[] :: cs) (.yl st.s.length :: caps) := by
      refine .cons _ _ _ _ (.yl _ _ ?_) (hcs.keep k2 pre_app)
      rw [← p.rel.ob.1]; simp
    have pI : Pre (w.heap.size + 2) gl fnn.ntmps W1 G (ρ ++ [w.heap.size + 1]) (fun _ => none)
        { tmps := (⟨.func (.yield (w.heap.size + 1)) #[] #[] :: cs⟩ : Array Value) ++ Array.replicate (fnn.ntmps - (⟨.func (.yield (w.heap.size + 1)) #[] #[] :: cs⟩ : Array Value).size) undef, defers := [] }
        { tm := initT (.yl st.s.length :: caps) 0, bx := fun _ => none, s := st.s ++ [.dead] } := by
      refine ⟨⟨?_, fun t cs h => by simp at h, fun _ _ => rfl, hob1, p.rel.gb.tr k2, hlt1⟩, .nil, ?_⟩
      · intro t
        have h1 := init_rel (n := 0) (t := t) hval (Nat.zero_le _)
        have h2 : (((⟨.func (.yield (w.heap.size + 1)) #[] #[] :: cs⟩ : Array Value) ++ Array.replicate (fnn.ntmps - (⟨.func (.yield (w.heap.size + 1)) #[] #[] :: cs⟩ : Array Value).size) undef).getD t undef) = ((Value.func (.yield (w.heap.size + 1)) #[] #[] :: cs)[t - 0]?).getD undef := by
          rw [Array.getD_eq_getD_getElem?, Array.getElem?_append, Nat.sub_zero]
          split
          · simp
          · rename_i ht
            have ht : (Value.func (.yield (w.heap.size + 1)) #[] #[] :: cs).length ≤ t := by simpa using ht
            rw [List.getElem?_eq_none ht, Array.getElem?_replicate]
            split <;> rfl
        rw [h2]
        exact .of_A h1
      · simp only [Array.size_append, Array.size_replicate]; omega
    have hO : Kept w G ρ a st.cool.tm r none W1 G (ρ ++ [w.heap.size + 1]) := by
      refine ⟨⟨r, ⟨none, by rw [hrd]; rfl, fun j hj => by simp at hj, rfl⟩, ⟨still.tm, ⟨still.far.good, pre_app⟩, still.rcd, still.rcdG, still.blk, still.blkG⟩⟩, fun _ _ h => h⟩
    have hyi : (ρ ++ [w.heap.size + 1])[st.s.length]? = some (w.heap.size + 1) := by rw [← p.rel.ob.1]; simp
    have hYok := rounds_ok (w0 := w) (G0 := G) (ρ0 := ρ) (gl := gl) (a := a) ha hb hpa hpb (r0 := r) (st0 := st.cool) rfl (by rw [hrd]) (by rw [hrd]) (by rw [hrd]) (ps := ps) (by rw [hrd]) (by rw [hrd]) (by rw [hrd]) hps p.sz 0
    refine wpIn_mono (sim_codeY (n := 0) hany hYok kept_keep hyi c hcc pI hO hr) ?_
    have fin : ∀ {e : Exit} {a' : Act} {W' : World} (pp : Option Ex → Ex), (∀ p, pp p = p.getD .normal) → AfterY (w.heap.size + 2) gl fnn.ntmps (Kept w G ρ a st.cool.tm r) (fun stY p => K (pp p) { st.cool with s := stY.s }) a' W' →
        LeavesInM Fence.wide 0 P fnn a'.tmps (rangePost Fence.wide 1 P (w.heap.size + 1) (Post n0 gl nt w G ρ K) { a with defers := [mark w.heap.size] ++ a.defers }) a'.defers .returning W' := by
      intro e a' W' pp hpp h
      obtain ⟨q2, G', ρ', lam', st', p', q1, q3, ⟨⟨r1, hr1, q4⟩, q5⟩, q6⟩ := h
      obtain ⟨Ds, hDs, _, _⟩ := id q1
      rw [hDs] at q1 ⊢
      refine leaves_marksY Ds q3 q4 q1 fun W2 t3 t4 => ?_
      refine ⟨.tuple #[], ?_, ?_⟩
      · have hl : fnn.results.toList = [] := by
          unfold compRs at hrs
          split at hrs
          · simp at hrs
          · simp at hrs
          · have := mapM_all2 hrs
            generalize fnn.results.toList = l at this
            cases this; rfl
        rw [results_run, hl]
        simp only [List.mapM_nil, Sem.run_pure, Result.andThen_ok]
      · obtain ⟨c, hc1, hc2, hc3⟩ := hr1
        have after : ∀ (KK : St → Prop), KK { st.cool with s := st'.s } → After n0 gl nt w G ρ KK { a with defers := [mark w.heap.size] ++ a.defers } (W2.putObj (w.heap.size + 1) (.loop { r1 with state := .exhausted, pending := c })) := by
          intro KK hk
          have h2 := t4.put { r1 with state := .exhausted, pending := c }
          have h3 := t4.putW t3.wd { r1 with state := .exhausted, pending := c }
          refine ⟨p.sz, G', ρ', fun _ => none, _, ?_, h2.rel h3, h2.far.good, h2.far.pre, hk⟩
          obtain ⟨Es, d1, d2, d3⟩ := p.df
          refine ⟨w.heap.size :: Es, by simp [d1], List.nodup_cons.2 ⟨fun hm => ?_, d2⟩, fun D hD => ?_⟩
          · have := (Array.getElem?_eq_some_iff.1 (d3 _ hm).2.1).1
            omega
          · rcases List.mem_cons.1 hD with rfl | hD
            · exact ⟨hn, h2.blk, h2.blkG⟩
            · obtain ⟨f1, f2, f3⟩ := d3 D hD
              have hlt := (Array.getElem?_eq_some_iff.1 f2).1
              obtain ⟨i1, i2⟩ := h2.far.good.imm D hlt (.inl f3)
              exact ⟨f1, i1.trans f2, i2.trans f3⟩
        rw [hpp] at q6
        have hbusy : r1.state ≠ .busy := by rw [hc1]; dsimp only; split <;> simp
        have hend := run_endLoop (P := P) t4.rcd hbusy
        have hpend : r1.pending = c := by rw [hc1]
        rw [hpend] at hend
        refine ⟨c, _, hend, ?_⟩
        cases c with
        | none =>
          simp only [Option.bind_none] at hc3
          subst hc3
          exact after (K .normal) q6
        | some j =>
          simp only [Option.bind_some] at hc3
          subst hc3
          have := hc2 j rfl
          cases j <;> simp only [jumpEx, Option.isSome_none, Bool.false_eq_true, Option.isSome_some] at this
          · exact wpIn_exit (after _ q6)
          · exact wpIn_ret (after _ q6)
    intro e a' W' h
    cases e with
    | normal => exact fin (e := .normal) (fun p => p.getD .normal) (fun _ => rfl) h
    | ret => exact fin (e := .ret) (fun p => p.getD .normal) (fun _ => rfl) h
    | exit i => obtain ⟨_, _, _, _, _, _, _, _, _, h⟩ := h; exact h.elim
    | _ => exact h.elim

theorem rangeLaw (hany : AnyLaw P gl) : RangeLaw P gl := by
  intro n0 nt an m f ps x y l l' vc w G ρ lam a st K hc p hn hr
  simp only [compC] at hc
  split at hc
  · rename_i fo va l2 vb l3 hfo ha hb
    simp only [Option.ite_none_right_eq_some, Option.some.injEq, Prod.mk.injEq, Bool.and_eq_true] at hc
    obtain ⟨⟨⟨hpa, hpb⟩, hps⟩, rfl, rfl⟩ := hc
    obtain ⟨ps⟩ := ps
    have hps' : ∀ p, p ∈ ps → p < a.tmps.size := fun q hq => Nat.lt_of_lt_of_le (by simpa [Nat.blt_eq] using List.all_eq_true.1 hps q hq) p.sz
    simp only [run] at hr
    obtain ⟨L, hT⟩ := ev_any hfo p.rel
    split at hr
    · rename_i g caps he
      rw [he] at hT
      have hA : RelA w G ρ (a.eval f) (.func g [] caps) := hT
      generalize hfv : a.eval f = fv at hA
      cases hA with
      | func _ as cs _ _ ras rcs =>
        cases ras
        exact range_sim hany ha hb hpa hpb hps' p hn hfv rcs hr
    · rename_i g he
      rw [he] at hT
      have hA : RelA w G ρ (a.eval f) (.d (.fn g)) := hT
      generalize hfv : a.eval f = fv at hA
      cases hA with
      | d _ _ h =>
        cases h
        exact range_sim hany ha hb hpa hpb hps' p hn hfv .nil hr
    · exact hr.elim
  · simp at hc

end
end Go.Vm
end

section
/- Concrete runs: the machine as a function. Conditions: none. -/
set_option linter.unusedSimpArgs false
namespace Go.Vm

abbrev Out := Option (Val × Store)

def loopN : Nat → (St → (St → Out) → Out) → St → Out
  | 0, _, _ => none
  | n + 1, F, st => F st fun st' => loopN n F st'

def evalAlg (tab : Nat → Option VF) (call : Nat → List Val → Store → Out) (fuel : Nat) : Alg Out where
  fail := none
  guard b p := cond b p none
  call f args s K := match call f args s with
    | some (r, s') => K r s'
    | none => none
  fix F st := loopN fuel F st
  both _ _ := none
  iter g k := match tab g with
    | some vf => k vf
    | none => none

/-- Which functions are known, as code of the machine. -/
def exec (tab : Nat → Option VF) (gl : Nat → List D) (fuel : Nat) : Nat → Nat → List Val → Store → Out
  | 0, _, _, _ => none
  | n + 1, f, args, s => match tab f with
    | some vf => runF (evalAlg tab (exec tab gl fuel n) fuel) gl vf args s fun r s' => some (r, s')
    | none => none

section
variable {P : Program} {gl : Nat → List D} {tab : Nat → Option VF} {call : Nat → List Val → Store → Out} {fuel : Nat} {x : Val × Store}

theorem Compiled.vev {f : Nat} {vf : VF} {args : List Val} {s s' : Store} {r : Val} (h : Compiled P f vf) (hr : runF (AP P gl) gl vf args s fun r' s'' => r' = r ∧ s'' = s') : VEv P gl f args s r s' := by
  obtain ⟨fn, an, h1, h2, h3⟩ := h
  exact vev_of_run (anyLaw P gl) (rangeLaw (anyLaw P gl)) h1 h2 h3 hr

theorem Compiled.of {f : Nat} {vf : VF} (an : Ann) (h1 : (P.funcs[f]?).map (fun fn => fn.name == "runtime.NumGoroutine") = some false) (h2 : (P.funcs[f]?).bind (compF P an) = some vf) : Compiled P f vf := by
  cases hf : P.funcs[f]? with
  | none => rw [hf] at h1; simp at h1
  | some fn =>
    rw [hf] at h1 h2
    exact ⟨fn, an, hf, by simpa using h1, h2⟩

theorem EV_guard (b : Bool) (p : Out) : (evalAlg tab call fuel).guard b p = some x ↔ b = true ∧ p = some x := by
  cases b <;> simp [evalAlg]
theorem EV_fail : ((evalAlg tab call fuel).fail = some x) = False := by simp [evalAlg]

/-- What is called is so. -/
def CallOk (P : Program) (gl : Nat → List D) (call : Nat → List Val → Store → Out) : Prop := ∀ f args s r s', call f args s = some (r, s') → VEv P gl f args s r s'

theorem callStep_eval (hc : CallOk P gl call) {f : Nat} {args : List Val} {s : Store} {K : Val → Store → Out} {K' : Val → Store → Prop} (hK : ∀ r s, K r s = some x → K' r s) (h : callStep (evalAlg tab call fuel) f args s K = some x) :
    callStep (AP P gl) f args s K' := by
  unfold callStep at h ⊢
  rw [EV_guard] at h
  obtain ⟨h1, h2⟩ := h
  refine ⟨h1, ?_⟩
  have : ∀ {as : List Val} {s0 : Store} {K0 : Val → Store → Out}, (evalAlg tab call fuel).call f as s0 K0 = some x → ∃ r s', call f as s0 = some (r, s') ∧ K0 r s' = some x := by
    intro as s0 K0 h
    simp only [evalAlg] at h
    split at h
    · exact ⟨_, _, ‹_›, h⟩
    · simp at h
  obtain ⟨r, s', h3, h4⟩ := this h2
  rw [EV_guard] at h4
  exact ⟨r, s', hc _ _ _ _ _ h3, h4.1, hK _ _ h4.2⟩

theorem step_eval (hc : CallOk P gl call) {i : I} {st : St} {K : St → Out} {K' : St → Prop} (hK : ∀ st, K st = some x → K' st) (h : step (evalAlg tab call fuel) gl i st K = some x) : step (AP P gl) gl i st K' := by
  cases i
  case cl d f xs =>
    simp only [step] at h ⊢
    split at h
    · rename_i e; first | exact callStep_eval hc (fun r s h => hK _ h) h | (simp only [e]; exact callStep_eval hc (fun r s h => hK _ h) h)
    · rename_i e; first | exact callStep_eval hc (fun r s h => hK _ h) h | (simp only [e]; exact callStep_eval hc (fun r s h => hK _ h) h)
    · rw [EV_fail] at h; exact h.elim
  case cp d f xs =>
    simp only [step] at h ⊢
    rw [EV_guard] at h
    refine ⟨h.1, ?_⟩
    have h2 := h.2
    simp only [evalAlg] at h2
    split at h2
    · rename_i r s' e
      refine ⟨r, s', hc _ _ _ _ _ e, ?_⟩
      cases hb : (s'.isEmpty && (refs depth r).isEmpty) with
      | true => rw [hb] at h2; exact ⟨hb, hK _ h2⟩
      | false => rw [hb] at h2; simp at h2
    · simp at h2
  case pk d c a b =>
    simp only [step] at h ⊢
    split at h
    · rename_i t e
      try simp only [e]
      cases t <;> exact hK _ h
    · rw [EV_fail] at h; exact h.elim
  case mf d f xs ws =>
    simp only [step] at h ⊢
    split at h
    · exact hK _ h
    · rename_i hn
      rw [EV_guard] at h
      first
        | exact ⟨h.1, hK _ h.2⟩
        | (split
           · exact (hn rfl rfl).elim
           · exact ⟨h.1, hK _ h.2⟩)
  case nq d neg kd y =>
    match kd with
    | 0 =>
      simp only [step] at h ⊢
      split at h
      · rename_i e; first | exact hK _ h | (simp only [e]; exact hK _ h)
      · simp [evalAlg] at h
      · rw [EV_fail] at h; exact h.elim
    | 1 | 2 | 3 =>
      simp only [step] at h ⊢
      split at h
      all_goals first
        | (rw [EV_fail] at h; exact h.elim)
        | exact hK _ h
        | (rename_i e; simp only [e]; exact hK _ h)
    | n + 4 => simp only [step] at h; rw [EV_fail] at h; exact h.elim
  all_goals (simp only [step] at h)
  all_goals (try simp only [step])
  all_goals (repeat' split at h)
  all_goals first
    | (rw [EV_fail] at h; exact h.elim)
    | exact hK _ h
    | (simp only [AP_guard, *]; exact hK _ h)
    | (rw [EV_guard] at h; exact ⟨h.1, hK _ h.2⟩)
    | (rw [EV_guard] at h; have h1 := h.1; have h2 := hK _ h.2; simp only [AP_guard, and_self, *]; done)
    | (simp only [EV_guard] at h; have h1 := h.1; have h2 := h.2.1; have h3 := hK _ h.2.2; simp only [AP_guard, and_self, *]; done)
    | (rw [EV_guard, EV_fail] at h; exact h.2.elim)

theorem steps_eval (hc : CallOk P gl call) : ∀ {l : List GI} {st : St} {K : St → Out} {K' : St → Prop}, (∀ st, K st = some x → K' st) → steps (evalAlg tab call fuel) gl l st K = some x → steps (AP P gl) gl l st K'
  | [], st, K, K', hK, h => hK _ h
  | ⟨none, i⟩ :: l, st, K, K', hK, h => step_eval hc (fun st h => steps_eval hc hK h) h
  | ⟨some (s, want), i⟩ :: l, st, K, K', hK, h => by
    simp only [steps] at h ⊢
    split at h
    · rename_i b e
      try simp only [e]
      cases hb : cond want b (!b) with
      | true => rw [hb] at h; simp only [cond_true] at h ⊢; exact step_eval hc (fun st h => steps_eval hc hK h) h
      | false => rw [hb] at h; simp only [cond_false] at h ⊢; exact steps_eval hc hK h
    · rename_i e
      try simp only [e]
      exact steps_eval hc hK h
    · rw [EV_fail] at h; exact h.elim

theorem forget_eval {n : Nat} {ts bs : List Nat} {st : St} {K : St → Out} {K' : St → Prop} (hK : ∀ st, K st = some x → K' st) (h : forget (evalAlg tab call fuel) n ts bs st K = some x) : forget (AP P gl) n ts bs st K' := by
  unfold forget at h ⊢
  rw [EV_guard] at h
  exact ⟨h.1, hK _ h.2⟩

/-- What is known is so. -/
def TabOk (P : Program) (tab : Nat → Option VF) : Prop := ∀ f vf, tab f = some vf → Compiled P f vf

theorem stepY_eval (hc : CallOk P gl call) {Y : Yd Out} {Y' : Yd Prop} (hY : ∀ vs s KB KB', (∀ p s, KB p s = some x → KB' p s) → Y vs s KB = some x → Y' vs s KB') {yi : Nat} {i : I} {st : St} {pp : Option Ex} {K : St → Option Ex → Out} {K' : St → Option Ex → Prop}
    (hK : ∀ st p, K st p = some x → K' st p) (h : stepY (evalAlg tab call fuel) gl Y yi i st pp K = some x) : stepY (AP P gl) gl Y' yi i st pp K' := by
  rcases stepY_cases (gl := gl) (yi := yi) (A := evalAlg tab call fuel) (Y := Y) (i := i) (st := st) (pp := pp) (K := K) with ⟨j, d, f, args, rfl, hf, he⟩ | he
  · rw [he, EV_guard] at h
    simp only [stepY, calledV, hf]
    refine ⟨h.1, ?_⟩
    have h2 := h.2
    unfold yieldY at h2 ⊢
    rw [EV_guard] at h2
    exact ⟨h2.1, hY _ _ _ _ (fun p s hh => hK _ _ hh) h2.2⟩
  · rw [he] at h
    rcases stepY_cases (gl := gl) (yi := yi) (A := AP P gl) (Y := Y') (i := i) (st := st) (pp := pp) (K := K') with ⟨j, d, f, args, rfl, hf, he'⟩ | he'
    · simp only [step, hf] at h
      rw [EV_fail] at h; exact h.elim
    · rw [he']
      exact step_eval hc (fun st hh => hK _ _ hh) h

theorem stepsY_eval (hc : CallOk P gl call) {Y : Yd Out} {Y' : Yd Prop} (hY : ∀ vs s KB KB', (∀ p s, KB p s = some x → KB' p s) → Y vs s KB = some x → Y' vs s KB') {yi : Nat} :
    ∀ {l : List GI} {st : St} {pp : Option Ex} {K : St → Option Ex → Out} {K' : St → Option Ex → Prop}, (∀ st p, K st p = some x → K' st p) → stepsY (evalAlg tab call fuel) gl Y yi l st pp K = some x → stepsY (AP P gl) gl Y' yi l st pp K'
  | [], st, pp, K, K', hK, h => hK _ _ h
  | ⟨none, i⟩ :: l, st, pp, K, K', hK, h => stepY_eval hc hY (fun st p h => stepsY_eval hc hY hK h) h
  | ⟨some (s, want), i⟩ :: l, st, pp, K, K', hK, h => by
    simp only [stepsY] at h ⊢
    split at h
    · rename_i b e
      try simp only [e]
      cases hb : cond want b (!b) with
      | true => rw [hb] at h; simp only [cond_true] at h ⊢; exact stepY_eval hc hY (fun st p h => stepsY_eval hc hY hK h) h
      | false => rw [hb] at h; simp only [cond_false] at h ⊢; exact stepsY_eval hc hY hK h
    · rename_i e
      try simp only [e]
      exact stepsY_eval hc hY hK h
    · rw [EV_fail] at h; exact h.elim

theorem runY_eval (hc : CallOk P gl call) {Y : Yd Out} {Y' : Yd Prop} (hY : ∀ vs s KB KB', (∀ p s, KB p s = some x → KB' p s) → Y vs s KB = some x → Y' vs s KB') {yi : Nat} :
    ∀ {c : VC} {st : St} {pp : Option Ex} {K : Ex → St → Option Ex → Out} {K' : Ex → St → Option Ex → Prop}, (∀ e st p, K e st p = some x → K' e st p) → runY (evalAlg tab call fuel) gl Y yi c st pp K = some x → runY (AP P gl) gl Y' yi c st pp K' := by
  intro c
  induction c with
  | skip => intro st pp K K' hK h; exact hK _ _ _ h
  | ops l => intro st pp K K' hK h; exact stepsY_eval hc hY (fun st p h => hK _ _ _ h) h
  | any l => intro st pp K K' hK h; exact steps_eval hc (fun st h => hK _ _ _ h) h
  | seq a b iha ihb =>
    intro st pp K K' hK h
    refine iha (fun e st p h => ?_) h
    cases e with
    | normal => exact ihb hK h
    | exit i => exact hK _ _ _ h
    | ret => exact hK _ _ _ h
  | cond c a b iha ihb =>
    intro st pp K K' hK h
    simp only [runY] at h ⊢
    split at h
    · rename_i t e
      try simp only [e]
      cases t with
      | true => exact iha hK h
      | false => exact ihb hK h
    · rw [EV_fail] at h; exact h.elim
  | block i b ih =>
    intro st pp K K' hK h
    refine ih (fun e st p h => ?_) h
    cases e with
    | normal => exact hK _ _ _ h
    | ret => exact hK _ _ _ h
    | exit j =>
      simp only at h ⊢
      cases hb : Nat.beq j i with
      | true => rw [hb] at h; exact hK _ _ _ h
      | false => rw [hb] at h; exact hK _ _ _ h
  | loop ts bs b ih =>
    intro st pp K K' hK h
    simp only [runY] at h ⊢
    rw [EV_guard] at h
    refine ⟨h.1, forget_eval (fun st0 h => ?_) h.2⟩
    refine ⟨fun n st => loopN n (fun st1 rec => runY (evalAlg tab call fuel) gl Y yi b st1 none fun x st p => match x with
      | .normal => (evalAlg tab call fuel).guard p.isNone (forget (evalAlg tab call fuel) st1.s.length ts bs st rec)
      | x => K x st p) st = some x, fuel, h, ?_⟩
    intro n st1 h1
    cases n with
    | zero => simp [loopN] at h1
    | succ n =>
      refine ih (fun e st p h => ?_) h1
      cases e with
      | normal => rw [EV_guard] at h; exact ⟨h.1, forget_eval (fun st h => ⟨n, Nat.lt_succ_self n, h⟩) h.2⟩
      | exit i => exact hK _ _ _ h
      | ret => exact hK _ _ _ h
  | rb y ps a b _ _ => intro st pp K K' hK h; simp only [runY] at h; rw [EV_fail] at h; exact h.elim
  | exit i => intro st pp K K' hK h; exact hK _ _ _ h
  | ret => intro st pp K K' hK h; exact hK _ _ _ h

theorem iterY_eval (hc : CallOk P gl call) (ht : TabOk P tab) {ra rb : St → (Ex → St → Out) → Out} {ra' rb' : St → (Ex → St → Prop) → Prop} (ha : ∀ st K K', (∀ e st, K e st = some x → K' e st) → ra st K = some x → ra' st K')
    (hb : ∀ st K K', (∀ e st, K e st = some x → K' e st) → rb st K = some x → rb' st K') {ps : List Nat} {g : Nat} {caps : List Val} {st : St} {K : Ex → St → Out} {K' : Ex → St → Prop} (hK : ∀ e st, K e st = some x → K' e st)
    (h : iterY (evalAlg tab call fuel) gl ra rb ps g caps st K = some x) : iterY (AP P gl) gl ra' rb' ps g caps st K' := by
  unfold iterY at h ⊢
  simp only [evalAlg] at h
  split at h
  · rename_i vf hvf
    change (evalAlg tab call fuel).guard _ (runY (evalAlg tab call fuel) gl (roundY (evalAlg tab call fuel) ra rb ps st.cool) _ _ _ _ _) = some x at h
    rw [EV_guard] at h
    refine ⟨vf, ht _ _ hvf, h.1, runY_eval hc (fun vs s KB KB' hKB hr => ?_) (fun e st p hh => ?_) h.2⟩
    · unfold roundY at hr ⊢
      rw [EV_guard] at hr
      refine ⟨hr.1, ha _ _ _ (fun e st hh => ?_) hr.2⟩
      cases e with
      | normal =>
        refine hb _ _ _ (fun e st hh => ?_) hh
        cases e with
        | normal => exact hKB _ _ hh
        | exit i => exact hKB _ _ hh
        | ret => exact hKB _ _ hh
      | exit i => rw [EV_fail] at hh; exact hh.elim
      | ret => rw [EV_fail] at hh; exact hh.elim
    · cases e with
      | normal => exact hK _ _ hh
      | ret => exact hK _ _ hh
      | exit i => simp at hh
  · simp at h

theorem run_eval (hc : CallOk P gl call) (ht : TabOk P tab) : ∀ {c : VC} {st : St} {K : Ex → St → Out} {K' : Ex → St → Prop}, (∀ e st, K e st = some x → K' e st) → run (evalAlg tab call fuel) gl c st K = some x → run (AP P gl) gl c st K' := by
  intro c
  induction c with
  | skip => intro st K K' hK h; exact hK _ _ h
  | ops l => intro st K K' hK h; exact steps_eval hc (fun st h => hK _ _ h) h
  | any l => intro st K K' hK h; exact steps_eval hc (fun st h => hK _ _ h) h
  | seq a b iha ihb =>
    intro st K K' hK h
    refine iha (fun e st h => ?_) h
    cases e with
    | normal => exact ihb hK h
    | exit i => exact hK _ _ h
    | ret => exact hK _ _ h
  | cond c a b iha ihb =>
    intro st K K' hK h
    simp only [run] at h ⊢
    split at h
    · rename_i t e
      try simp only [e]
      cases t with
      | true => exact iha hK h
      | false => exact ihb hK h
    · rw [EV_fail] at h; exact h.elim
  | block i b ih =>
    intro st K K' hK h
    refine ih (fun e st h => ?_) h
    cases e with
    | normal => exact hK _ _ h
    | ret => exact hK _ _ h
    | exit j =>
      simp only at h ⊢
      cases hb : Nat.beq j i with
      | true => rw [hb] at h; exact hK _ _ h
      | false => rw [hb] at h; exact hK _ _ h
  | loop ts bs b ih =>
    intro st K K' hK h
    refine forget_eval (fun st0 h => ?_) h
    refine ⟨fun n st => loopN n (fun st1 rec => run (evalAlg tab call fuel) gl b st1 fun x st => match x with
      | .normal => forget (evalAlg tab call fuel) st1.s.length ts bs st rec
      | x => K x st) st = some x, fuel, h, ?_⟩
    intro n st1 h1
    cases n with
    | zero => simp [loopN] at h1
    | succ n =>
      refine ih (fun e st h => ?_) h1
      cases e with
      | normal => exact forget_eval (fun st h => ⟨n, Nat.lt_succ_self n, h⟩) h
      | exit i => exact hK _ _ h
      | ret => exact hK _ _ h
  | rb y ps a b iha ihb =>
    intro st K K' hK h
    simp only [run] at h ⊢
    split at h
    · exact iterY_eval (ra := run (evalAlg tab call fuel) gl a) (rb := run (evalAlg tab call fuel) gl b) hc ht (fun st K K' hK h => iha hK h) (fun st K K' hK h => ihb hK h) hK h
    · exact iterY_eval (ra := run (evalAlg tab call fuel) gl a) (rb := run (evalAlg tab call fuel) gl b) hc ht (fun st K K' hK h => iha hK h) (fun st K K' hK h => ihb hK h) hK h
    · rw [EV_fail] at h; exact h.elim
  | exit i => intro st K K' hK h; exact hK _ _ h
  | ret => intro st K K' hK h; exact hK _ _ h

theorem runF_eval (hc : CallOk P gl call) (ht : TabOk P tab) {vf : VF} {args : List Val} {s : Store} {K : Val → Store → Out} {K' : Val → Store → Prop} (hK : ∀ r s, K r s = some x → K' r s) (h : runF (evalAlg tab call fuel) gl vf args s K = some x) :
    runF (AP P gl) gl vf args s K' := by
  unfold runF at h ⊢
  refine run_eval hc ht (fun e st h => ?_) h
  have key : ∀ {st : St}, (match resVal st vf.res with
      | some r => (evalAlg tab call fuel).guard (noL depth r) (K r (gc s.length r st.s))
      | none => (evalAlg tab call fuel).fail) = some x → (match resVal st vf.res with
      | some r => (AP P gl).guard (noL depth r) (K' r (gc s.length r st.s))
      | none => (AP P gl).fail) := by
    intro st h
    cases hr : resVal st vf.res with
    | some r => rw [hr] at h; rw [EV_guard] at h; exact ⟨h.1, hK _ _ h.2⟩
    | none => rw [hr] at h; rw [EV_fail] at h; exact h.elim
  cases e with
  | normal => exact key h
  | ret => exact key h
  | exit i => rw [EV_fail] at h; exact h.elim

theorem exec_sound (ht : TabOk P tab) : ∀ n, CallOk P gl (exec tab gl fuel n) := by
  intro n
  induction n with
  | zero => intro f args s r s' h; simp [exec] at h
  | succ n ih =>
    intro f args s r s' h
    simp only [exec] at h
    split at h
    · rename_i vf hv
      refine (ht f vf hv).vev (runF_eval ih ht (fun r0 s0 h0 => ?_) h)
      simp only [Option.some.injEq, Prod.mk.injEq] at h0
      exact h0
    · simp at h

end
end Go.Vm
end

section
/- What can be read as data has a tree. Conditions: none. -/
namespace Go.Vm

/-- The kinds of cells. -/
inductive CT where
  | bool
  | int (k : IntKind)
  | str
  | list (ag : Bool) (ts : List CT)
  deriving Inhabited, Repr

mutual
/-- Is a cell of its kind, and its lists and texts no longer than 'N'? -/
inductive OkC (N : Nat) : CT → D → Prop
  | bool (b : Bool) : OkC N .bool (.bool b)
  | int (k : IntKind) (n : Int) : k.min ≤ n → n ≤ k.max → OkC N (.int k) (.int k n)
  | str (s : List UInt8) : s.length ≤ N → OkC N .str (.str s)
  | list (ag : Bool) (ts : List CT) (l : List D) : l.length ≤ N → OkE N ag ts l → OkC N (.list ag ts) (.list ts.length l)
/-- Elements. -/
inductive OkE (N : Nat) : Bool → List CT → List D → Prop
  | nil (ag : Bool) (ts : List CT) : OkE N ag ts []
  | agg (ts : List CT) (cs : List D) (l : List D) : OkL N ts cs → OkE N true ts l → OkE N true ts (.agg cs :: l)
  | one (t : CT) (x : D) (l : List D) : OkC N t x → OkE N false [t] l → OkE N false [t] (x :: l)
inductive OkL (N : Nat) : List CT → List D → Prop
  | nil : OkL N [] []
  | cons (t : CT) (x : D) (ts : List CT) (xs : List D) : OkC N t x → OkL N ts xs → OkL N (t :: ts) (x :: xs)
end

section
variable (P : Program)

def ctFields (f : Nat → Option (Bool × List CT)) : List Field → Nat → Option (List CT)
  | [], _ => some []
  | x :: xs, off => match f x.type with
    | some (_, a) => match ctFields f xs (off + a.length) with
      | some b => if x.offset = off ∧ P.cellsOf x.type = a.length then some (a ++ b) else none
      | none => none
    | none => none

/-- The kinds of a type's cells; is it a struct? -/
def ctOf : Nat → Nat → Option (Bool × List CT)
  | 0, _ => none
  | n + 1, t => match P.underlying t with
    | some .bool => some (false, [.bool])
    | some (.int k) => some (false, [.int k])
    | some .string => some (false, [.str])
    | some (.slice e) => match ctOf n e with
      | some (ag, ts) => if P.cellsOf e = ts.length ∧ 0 < ts.length then some (false, [.list ag ts]) else none
      | none => none
    | some (.struct fs) => match ctFields P (ctOf n) fs.toList 0 with
      | some ts => if P.cellsOf t = ts.length then some (true, ts) else none
      | none => none
    | _ => none
end

/-- What a measure of sizes keeps. -/
structure BulkLike {H : Type} (B : DataW H → Nat) : Prop where
  str : ∀ s, s.length ≤ B (.lit (.string s))
  slice : ∀ es sp, es.length ≤ B (.slice es sp) ∧ ∀ x, x ∈ es → B x ≤ B (.slice es sp)
  agg : ∀ ps x, x ∈ ps → B x ≤ B (.agg ps)

def G0 : Gh := fun _ => none

section
variable {P : Program} {W : World} {N off : Nat}

theorem OkL.append {ts us : List CT} {xs ys : List D} (h : OkL N ts xs) (h2 : OkL N us ys) : OkL N (ts ++ us) (xs ++ ys) := by
  induction ts generalizing xs with
  | nil => cases h; exact h2
  | cons t ts ih => cases h with | cons _ _ _ _ a b => exact .cons _ _ _ _ a (ih b)

theorem OkL.length {ts : List CT} {xs : List D} (h : OkL N ts xs) : xs.length = ts.length := by
  induction ts generalizing xs with
  | nil => cases h; rfl
  | cons t ts ih => cases h with | cons _ _ _ _ a b => simp [ih b]

theorem cell_add {b off j : Nat} : W.cell? ((⟨b, off, none⟩ : Addr).add j) = W.cell? ⟨b, off + j, none⟩ := by
  unfold Addr.add
  split
  · rename_i h; subst h; rfl
  · rfl

theorem cellsAt_of {b off n : Nat} {vs : List Value} (h : W.cells? 0 ⟨b, off, none⟩ n = some vs) (h1 : ∀ v, v ∈ vs → v.oneCell' = true) : vs.length = n ∧ CellsAt W G0 b off vs := by
  obtain ⟨_, hl, hc⟩ := World.cells?_some h
  refine ⟨hl, fun j v hv => ⟨?_, fun L n h => by simp [G0] at h, h1 v (List.mem_of_getElem? hv)⟩⟩
  have hj : j < vs.length := by
    rcases Nat.lt_or_ge j vs.length with h | h
    · exact h
    · rw [List.getElem?_eq_none h] at hv; simp at hv
  have := hc j (by omega)
  rw [cell_add] at this
  rw [this]; exact hv

theorem CellsAt.app {b off : Nat} {vs us : List Value} (h : CellsAt W G0 b off vs) (h2 : CellsAt W G0 b (off + vs.length) us) : CellsAt W G0 b off (vs ++ us) := by
  intro j v hv
  rcases Nat.lt_or_ge j vs.length with hj | hj
  · rw [List.getElem?_append_left hj] at hv; exact h j v hv
  · rw [List.getElem?_append_right hj] at hv
    have := h2 _ v hv
    rwa [show off + vs.length + (j - vs.length) = off + j by omega] at this

/-- An element of its kinds, made of its cells. -/
def mkE (ag : Bool) (xs : List D) : D := if ag then .agg xs else xs.getD 0 .nilp

theorem OkE.cons_mk {ag : Bool} {ts : List CT} {xs : List D} {l : List D} (hag : ag = false → ∃ t, ts = [t]) (h : OkL N ts xs) (h2 : OkE N ag ts l) : OkE N ag ts (mkE ag xs :: l) ∧ (mkE ag xs).cells = xs := by
  cases ag with
  | true => exact ⟨.agg _ _ _ h h2, rfl⟩
  | false =>
    obtain ⟨t, rfl⟩ := hag rfl
    cases h with
    | cons _ x _ xs h1 h3 =>
      cases h3
      refine ⟨.one _ _ _ h1 h2, ?_⟩
      simp only [mkE, Bool.false_eq_true, if_false, List.getD_cons_zero]
      cases h1 <;> rfl

theorem ctOf_one {n t : Nat} {ts : List CT} (h : ctOf P n t = some (false, ts)) : ∃ c, ts = [c] := by
  cases n with
  | zero => simp [ctOf] at h
  | succ n =>
    simp only [ctOf] at h
    split at h
    all_goals (try (simp only [Option.some.injEq, Prod.mk.injEq, true_and] at h; exact ⟨_, h.symm⟩))
    · split at h
      · split at h
        · simp only [Option.some.injEq, Prod.mk.injEq, true_and] at h; exact ⟨_, h.symm⟩
        · simp at h
      · simp at h
    · split at h
      · split at h
        · simp at h
        · simp at h
      · simp at h
    · simp at h

theorem rd_fields {H : Type} {f : Field → List Value → Option (DataW H × List MemPlace)} {B : DataW H → Nat} {cs : List Value} {g : Nat → Option (Bool × List CT)} :
    ∀ {fs : List Field} {off : Nat} {ts : List CT} {ys : List (DataW H × List MemPlace)}, ctFields P g fs off = some ts → (fs.mapM fun x => f x ((cs.drop x.offset).take (P.cellsOf x.type))) = some ys → (∀ y, y ∈ ys → B y.1 ≤ N) →
    (∀ x, x ∈ fs → ∀ cs d ps ag ts, g x.type = some (ag, ts) → f x cs = some (d, ps) → B d ≤ N → ∃ xs, RdL W G0 cs xs ∧ OkL N ts xs ∧ ∀ v, v ∈ cs → v.oneCell' = true) →
    ∃ xs, RdL W G0 ((cs.drop off).take ts.length) xs ∧ OkL N ts xs ∧ ∀ v, v ∈ (cs.drop off).take ts.length → v.oneCell' = true
  | [], off, ts, ys, h1, h2, h3, h4 => by
    simp only [ctFields, Option.some.injEq] at h1
    subst h1
    exact ⟨[], by simpa using .nil, .nil, by simp⟩
  | x :: fs, off, ts, ys, h1, h2, h3, h4 => by
    simp only [ctFields] at h1
    split at h1
    · rename_i ag a ha
      split at h1
      · rename_i b hb
        split at h1
        · rename_i hc
          simp only [Option.some.injEq] at h1
          subst h1
          simp only [List.mapM_cons, Option.bind_eq_bind, Option.bind_eq_some_iff, Option.pure_def, Option.some.injEq] at h2
          obtain ⟨y, hy, ys', hys, rfl⟩ := h2
          obtain ⟨d, ps⟩ := y
          obtain ⟨xs, e1, e2, e3⟩ := h4 x (by simp) _ d ps _ _ ha hy (h3 (d, ps) (by simp))
          obtain ⟨zs, f1, f2, f3⟩ := rd_fields (off := off + a.length) hb hys (fun y hy => h3 y (by simp [hy])) (fun x hx => h4 x (by simp [hx]))
          rw [hc.1, hc.2] at e1 e3
          have hsplit : (cs.drop off).take (a ++ b).length = (cs.drop off).take a.length ++ (cs.drop (off + a.length)).take b.length := by
            rw [List.length_append, List.take_add, List.drop_drop]
          refine ⟨xs ++ zs, ?_, e2.append f2, ?_⟩
          · rw [hsplit]; exact e1.append f1
          · rw [hsplit]
            intro v hv
            rcases List.mem_append.1 hv with h | h
            · exact e3 v h
            · exact f3 v h
        · simp at h1
      · simp at h1
    · simp at h1

theorem rd_elems {Y : Type} {b sz : Nat} {ag : Bool} {ts : List CT} (hsz : sz = ts.length) (hag : ag = false → ∃ t, ts = [t]) :
    ∀ {ys : List Y} {k : Nat}, (∀ i y, ys[i]? = some y → ∃ vs xs, vs.length = sz ∧ CellsAt W G0 b (off + (k + i) * sz) vs ∧ RdL W G0 vs xs ∧ OkL N ts xs) →
    ∃ (l : List D) (vs : List Value), l.length = ys.length ∧ (∀ d, d ∈ l → d.cells.length = sz) ∧ CellsAt W G0 b (off + k * sz) vs ∧ RdL W G0 vs (l.flatMap D.cells) ∧ OkE N ag ts l
  | [], k, _ => ⟨[], [], rfl, by simp, fun j v hv => by simp at hv, .nil, .nil _ _⟩
  | y :: ys, k, h => by
    obtain ⟨vs, xs, e1, e2, e3, e4⟩ := h 0 y rfl
    obtain ⟨l, us, f1, f2, f3, f4, f5⟩ := rd_elems hsz hag (ys := ys) (k := k + 1) fun i y hy => by
      obtain ⟨vs, xs, g1, g2, g3⟩ := h (i + 1) y (by simpa using hy)
      exact ⟨vs, xs, g1, by rw [show k + 1 + i = k + (i + 1) by omega]; exact g2, g3⟩
    obtain ⟨g1, g2⟩ := OkE.cons_mk hag e4 f5
    refine ⟨mkE ag xs :: l, vs ++ us, by simp [f1], ?_, ?_, ?_, g1⟩
    · intro d hd
      rcases List.mem_cons.1 hd with rfl | hd
      · rw [g2, e4.length, hsz]
      · exact f2 d hd
    · refine CellsAt.app (by simpa using e2) ?_
      rw [e1, show off + k * sz + sz = off + (k + 1) * sz by rw [Nat.add_mul]; omega]
      exact f3
    · rw [List.flatMap_cons, g2]; exact e3.append f4

/-- A reading has a tree. -/
theorem rd_trod {H : Type} {enc : TypeId × Value → H} {sp : Nat → Bool} {B : DataW H → Nat} (hB : BulkLike B) : ∀ (n fuel t : Nat) (cs : List Value) (d : DataW H) (ps : List MemPlace) (ag : Bool) (ts : List CT),
    ctOf P n t = some (ag, ts) → DataW.trod enc P W 0 sp true fuel t cs = some (d, ps) → B d ≤ N → ∃ xs, RdL W G0 cs xs ∧ OkL N ts xs ∧ ∀ v, v ∈ cs → v.oneCell' = true := by
  intro n
  induction n with
  | zero => intro fuel t cs d ps ag ts h; simp [ctOf] at h
  | succ n ih =>
    intro fuel t cs d ps ag ts h1 h2 hN
    cases fuel with
    | zero => simp [DataW.trod] at h2
    | succ fuel =>
      simp only [ctOf] at h1
      split at h1
      · rename_i hu
        simp only [Option.some.injEq, Prod.mk.injEq] at h1
        obtain ⟨rfl, rfl⟩ := h1
        obtain ⟨b, rfl, _⟩ := DataW.trod_bool hu h2
        exact ⟨_, .cons _ _ _ _ (.bool _) .nil, .cons _ _ _ _ (.bool _) .nil, by simp [Value.oneCell']⟩
      · rename_i k hu
        simp only [Option.some.injEq, Prod.mk.injEq] at h1
        obtain ⟨rfl, rfl⟩ := h1
        obtain ⟨m, rfl, _, hw⟩ := DataW.trod_int hu h2
        simp only [Lit.wf, Bool.and_eq_true, decide_eq_true_eq] at hw
        exact ⟨_, .cons _ _ _ _ (.int _ _) .nil, .cons _ _ _ _ (.int _ _ hw.1 hw.2) .nil, by simp [Value.oneCell']⟩
      · rename_i hu
        simp only [Option.some.injEq, Prod.mk.injEq] at h1
        obtain ⟨rfl, rfl⟩ := h1
        obtain ⟨m, rfl, he, _⟩ := DataW.trod_string hu h2
        simp only [Prod.mk.injEq] at he
        obtain ⟨rfl, rfl⟩ := he
        exact ⟨_, .cons _ _ _ _ (.str _ _ rfl) .nil, .cons _ _ _ _ (.str _ (Nat.le_trans (hB.str _) hN)) .nil, by simp [Value.oneCell']⟩
      · rename_i e hu
        split at h1
        · rename_i ag2 ts2 he
          split at h1
          · rename_i hc
            simp only [Option.some.injEq, Prod.mk.injEq] at h1
            obtain ⟨rfl, rfl⟩ := h1
            have hag : ag2 = false → ∃ t, ts2 = [t] := fun h => by subst h; exact ctOf_one he
            rcases DataW.trod_slice hu h2 with ⟨rfl, _⟩ | ⟨a, len, cap, elems, rest, n', hf, rfl, hd, _, hlc, _, hlen, hel, _, _⟩
            · exact ⟨_, .cons _ _ _ _ (.list0 _ _ _) .nil, .cons _ _ _ _ (.list _ _ _ (Nat.zero_le _) (.nil _ _)) .nil, by simp [Value.oneCell']⟩
            · simp only [Prod.mk.injEq] at hd
              obtain ⟨rfl, _⟩ := hd
              cases hf
              have hs := hB.slice (elems.map (·.1)) (rest.map (·.1))
              rcases Nat.eq_zero_or_pos len with h0 | h0
              · subst h0
                exact ⟨_, .cons _ _ _ _ (.list0 _ _ ts2.length) .nil, .cons _ _ _ _ (.list _ _ _ (Nat.zero_le _) (.nil _ _)) .nil, by simp [Value.oneCell']⟩
              · obtain ⟨b, off, spot⟩ := a
                have hspot : spot = none := by
                  have := hel 0 h0
                  rw [List.getElem?_eq_getElem (by omega), Option.bind_eq_some_iff] at this
                  obtain ⟨vs, hvs, _⟩ := this
                  obtain ⟨_, hl, hcc⟩ := World.cells?_some hvs
                  have h1 := hcc 0 (by rw [hc.1]; exact hc.2)
                  rw [List.getElem?_eq_getElem (by rw [hl, hc.1]; exact hc.2)] at h1
                  simp only [Nat.zero_mul, Addr.add, if_true] at h1
                  unfold World.cell? at h1
                  split at h1
                  · cases spot with
                    | none => rfl
                    | some q => simp at h1
                  · simp at h1
                subst hspot
                obtain ⟨l, vs, f1, f2, f3, f4, f5⟩ := rd_elems (W := W) (N := N) (off := off) (b := b) (ys := elems) (k := 0) (sz := ts2.length) rfl hag fun i y hy => by
                  have hi : i < len := by
                    rw [← hlen]
                    rcases Nat.lt_or_ge i elems.length with h | h
                    · exact h
                    · rw [List.getElem?_eq_none h] at hy; simp at hy
                  have := hel i hi
                  rw [hy, Option.bind_eq_some_iff] at this
                  obtain ⟨us, hus, ht⟩ := this
                  obtain ⟨d, ps⟩ := y
                  obtain ⟨xs, e1, e2, e3⟩ := ih _ _ _ _ _ _ _ he ht (Nat.le_trans (hs.2 d (List.mem_map.2 ⟨(d, ps), List.mem_of_getElem? hy, rfl⟩)) hN)
                  rw [hc.1] at hus
                  have hadd : (⟨b, off, none⟩ : Addr).add (i * ts2.length) = ⟨b, off + i * ts2.length, none⟩ := by
                    unfold Addr.add
                    split
                    · rename_i h; rw [h]; rfl
                    · rfl
                  rw [hadd] at hus
                  obtain ⟨c1, c2⟩ := cellsAt_of hus e3
                  exact ⟨us, xs, c1, by rw [Nat.zero_add]; exact c2, e1, e2⟩
                rw [Nat.zero_mul, Nat.add_zero] at f3
                rw [hlen] at f1
                exact ⟨_, .cons _ _ _ _ (.list b off len cap ts2.length l vs f1.symm hlc f2 f3 f4) .nil,
                  .cons _ _ _ _ (.list _ _ _ (by rw [f1, ← hlen]; have := hs.1; rw [List.length_map] at this; exact Nat.le_trans this hN) f5) .nil, by simp [Value.oneCell']⟩
          · simp at h1
        · simp at h1
      · rename_i fs hu
        split at h1
        · rename_i ts2 he
          split at h1
          · rename_i hc
            simp only [Option.some.injEq, Prod.mk.injEq] at h1
            obtain ⟨rfl, rfl⟩ := h1
            unfold DataW.trod at h2
            simp only [hu] at h2
            split at h2
            · rename_i hl
              simp only [Option.map_eq_some_iff, Prod.mk.injEq] at h2
              obtain ⟨ys, hy, rfl, rfl⟩ := h2
              obtain ⟨xs, e1, e2, e3⟩ := rd_fields (B := B) (f := fun f cs => DataW.trod enc P W 0 sp true fuel f.type cs) (off := 0) he hy (fun y hy => Nat.le_trans (hB.agg _ _ (List.mem_map_of_mem hy)) hN)
                (fun x _ cs d ps ag ts h1 h2 h3 => ih fuel _ cs d ps ag ts h1 h2 h3)
              rw [List.drop_zero, List.take_of_length_le (by rw [hl, hc]; exact Nat.le_refl _)] at e1 e3
              exact ⟨xs, e1, e2, e3⟩
            · simp at h2
          · simp at h1
        · simp at h1
      · simp at h1

end
end Go.Vm
end

section
/- From a law's contract to its row. Conditions: none. -/
namespace Go.Vm

section
variable {P : Program} {W : World} {N : Nat}

/-- An argument has a tree. -/
theorem rd_arg {H : Type} {enc : TypeId × Value → H} {sp : Nat → Bool} {B : DataW H → Nat} (hB : BulkLike B) {n base t : Nat} {v : Value} {d : DataW H} {ps : List MemPlace} {ag : Bool} {ts : List CT}
    (ht : ctOf P n t = some (ag, ts)) (hval : Value.okWide P W .any base t v) (hd : DataW.Trod enc P W 0 sp true t v d ps) (hN : B d ≤ N) : ∃ xs, Rd W G0 v (mkE ag xs) ∧ OkL N ts xs := by
  obtain ⟨fuel, hf⟩ := hd
  obtain ⟨xs, h1, h2, h3⟩ := rd_trod hB n fuel t _ _ _ _ _ ht hf hN
  refine ⟨xs, ?_, h2⟩
  cases n with
  | zero => simp [ctOf] at ht
  | succ n =>
    have hag : ag = false → v.cells.toList = [v] → Rd W G0 v (mkE ag xs) := by
      intro ha hv
      subst ha
      rw [hv] at h1
      cases h1 with
      | cons _ x _ xs h1 h3 => cases h3; exact h1
    simp only [ctOf] at ht
    unfold Value.okWide at hval
    split at ht
    · rename_i hu
      simp only [Option.some.injEq, Prod.mk.injEq] at ht
      rw [hu] at hval
      refine hag ht.1.symm ?_
      simp only [Cell.okWide, hu] at hval
      cases v <;> simp [Cell.ok, hu] at hval <;> rfl
    · rename_i hu
      simp only [Option.some.injEq, Prod.mk.injEq] at ht
      rw [hu] at hval
      refine hag ht.1.symm ?_
      simp only [Cell.okWide, hu] at hval
      cases v <;> simp [Cell.ok, hu] at hval <;> rfl
    · rename_i hu
      simp only [Option.some.injEq, Prod.mk.injEq] at ht
      rw [hu] at hval
      refine hag ht.1.symm ?_
      simp only [Cell.okWide, hu] at hval
      cases v <;> simp [Cell.ok, hu] at hval <;> rfl
    · rename_i e hu
      split at ht
      · split at ht
        · simp only [Option.some.injEq, Prod.mk.injEq] at ht
          rw [hu] at hval
          refine hag ht.1.symm ?_
          simp only [Cell.okWide, hu] at hval
          cases v <;> simp [Cell.ok, hu] at hval <;> rfl
        · simp at ht
      · simp at ht
    · rename_i fs hu
      split at ht
      · split at ht
        · simp only [Option.some.injEq, Prod.mk.injEq] at ht
          rw [hu] at hval
          simp only at hval
          obtain ⟨cs, rfl, _⟩ := hval
          rw [← ht.1]
          exact .agg _ _ h1
        · simp at ht
      · simp at ht
    · simp at ht

theorem keeps_all {W W' : World} {G' : Gh} (h : Good W G0 W' G') : ∀ i, i < W.heap.size → W'.heap[i]? = W.heap[i]? := fun i hi => (h.imm i hi (.inl rfl)).1

theorem keptBut_of {W W' : World} {G' : Gh} {may : MemPlace → Prop} (h : Good W G0 W' G') : W.keptBut W' may := by
  refine ⟨h.os, h.out, fun i hi => ?_⟩
  rw [keeps_all h i hi]
  cases W.heap[i]? with
  | none => rfl
  | some o => cases o <;> simp

/-- A listed table of integers: its cells. -/
def GlobalsAre (W : World) (gl : Nat → List D) : Prop := ∀ g, ∃ vs, CellsAt W G0 g 0 vs ∧ RdL W G0 vs (gl g)

theorem relG_of {gl : Nat → List D} (h : GlobalsAre W gl) : RelG gl W G0 := by
  intro g
  obtain ⟨vs, h1, h2⟩ := h g
  have := Rd.iptr g 0 0 vs _ h1 h2
  simpa using this

/-- Arguments of their kinds. -/
inductive OkA (N : Nat) : List (Bool × List CT) → List Val → Prop
  | nil : OkA N [] []
  | cons (ag : Bool) (ts : List CT) (xs : List D) (tys : List (Bool × List CT)) (as : List Val) : OkL N ts xs → OkA N tys as → OkA N ((ag, ts) :: tys) (.d (mkE ag xs) :: as)

theorem rd_args {H : Type} {enc : TypeId × Value → H} {sp : Nat → Bool} {B : DataW H → Nat} (hB : BulkLike B) {n base : Nat} : ∀ {ts : List Nat} {vs : List Value} {ds : List (DataW H)} {ps : List MemPlace} {tys : List (Bool × List CT)},
    ts.mapM (ctOf P n) = some tys → (∀ (j : Nat) t v, ts[j]? = some t → vs[j]? = some v → Value.okWide P W .any base t v) → DataW.TrodAll enc P W 0 sp true ts vs ds ps → (∀ d, d ∈ ds → B d ≤ N) →
    ∃ as, OkA N tys as ∧ RelL W G0 [] vs as ∧ ds.length = ts.length
  | [], vs, ds, ps, tys, h1, h2, h3, h4 => by
    simp only [List.mapM_nil, Option.pure_def, Option.some.injEq] at h1
    subst h1
    cases vs with
    | nil => cases ds with
      | nil => exact ⟨[], .nil, .nil, rfl⟩
      | cons _ _ => exact h3.elim
    | cons _ _ => exact h3.elim
  | t :: ts, vs, ds, ps, tys, h1, h2, h3, h4 => by
    simp only [List.mapM_cons, Option.bind_eq_bind, Option.bind_eq_some_iff, Option.pure_def, Option.some.injEq] at h1
    obtain ⟨⟨ag, cts⟩, hc, tys', ht, rfl⟩ := h1
    cases vs with
    | nil => exact h3.elim
    | cons v vs => cases ds with
      | nil => exact h3.elim
      | cons d ds =>
        obtain ⟨p, q, e1, e2, _⟩ := h3
        obtain ⟨xs, f1, f2⟩ := rd_arg hB hc (h2 0 t v rfl rfl) e1 (h4 d (by simp))
        obtain ⟨as, g1, g2, g3⟩ := rd_args hB ht (fun j t v ht hv => h2 (j + 1) t v (by simpa using ht) (by simpa using hv)) e2 (fun d hd => h4 d (by simp [hd]))
        exact ⟨_, .cons _ _ _ _ _ f2 g1, .cons _ _ _ _ (.d _ _ f1) g2, by simp [g3]⟩

theorem same_all {W W' : World} {G' : Gh} (h : Good W G0 W' G') {p : MemPlace} (hp : p.block < W.heap.size) : W.sameAt W' p := by
  cases p with
  | cell b o => exact World.cell?_of_block (w := W) (keeps_all h b hp)
  | map b => exact keeps_all h b hp

theorem trodAll_stays {H : Type} {enc : TypeId × Value → H} {W W' : World} {G' : Gh} (hl : laidOutB P = true) (h : Good W G0 W' G') : ∀ {ts : List Nat} {vs : List Value} {ds : List (DataW H)} {ps : List MemPlace},
    (∀ t, t ∈ ts → P.readableRec t = true ∧ t < P.types.size) → DataW.TrodAll enc P W 0 (fun _ => true) true ts vs ds ps → (∀ x, x ∈ ps → x.block < W.heap.size) → DataW.TrodAll enc P W' 0 (fun b => decide (b < W.heap.size)) true ts vs ds ps
  | [], vs, ds, ps, _, h2, _ => by
    cases vs with
    | nil => cases ds with
      | nil => exact h2
      | cons _ _ => exact h2.elim
    | cons _ _ => exact h2.elim
  | t :: ts, vs, ds, ps, h1, h2, h3 => by
    cases vs with
    | nil => exact h2.elim
    | cons v vs => cases ds with
      | nil => exact h2.elim
      | cons d ds =>
        obtain ⟨p, q, e1, e2, rfl⟩ := h2
        obtain ⟨r1, r2⟩ := h1 t (by simp)
        exact ⟨p, q, WideElems.Trod_stays hl r1 r2 e1 (fun x hx => same_all h (h3 x (by simp [hx]))) (fun x hx => by simpa using h3 x (by simp [hx])),
          trodAll_stays hl h (fun t ht => h1 t (by simp [ht])) e2 (fun x hx => h3 x (by simp [hx])), rfl⟩

/-- A law's contract, of what the machine computes. -/
theorem contract_law {H : Type} {enc : TypeId × Value → H} {spec : ChangeSpec} {fn : Func} {f tb n base : Nat} {gl : Nat → List D} {B : DataW H → Nat} (hB : BulkLike B) {tys : List (Bool × List CT)} {args : Array Value} {ds gs : List (DataW H)} {before : List MemPlace}
    (hvars : spec.vars = []) (hfn : ds.length = fn.params.size → spec.fn H (ds ++ gs) = { results := [.lit (.bool true)], args := ds })
    (hres : fn.resultTypes = #[tb]) (hb : P.underlying tb = some .bool) (hl : laidOutB P = true) (hr : (fn.params.toList.all fun t => P.readableRec t && decide (t < P.types.size)) = true)
    (hty : fn.params.toList.mapM (ctOf P n) = some tys) (hgl : GlobalsAre W gl)
    (hval : ∀ (j : Nat) t v, fn.params[j]? = some t → args[j]? = some v → Value.okWide P W .any base t v)
    (hW : DataW.Whole enc P fn.params.toList spec.vars false W args.toList ds gs before) (hN : ∀ d, d ∈ ds → B d ≤ N)
    (hwalk : ∀ as, OkA N tys as → VEv P gl f as [] (.d (.bool true)) []) :
    Calls P f args W fun e W' => ∃ v, e = .returned v ∧ spec.post enc P fn false true false false W args v W' := by
  have hW' := hW
  obtain ⟨p, q, hA, hV, rfl, hfz, hnd⟩ := hW
  obtain ⟨as, ha, hrel, hlen⟩ := rd_args hB hty (fun j t v ht hv => hval j t v (by simpa using ht) (by simpa using hv)) hA hN
  obtain ⟨_, hev⟩ := hwalk as ha
  have hargs : args = ⟨args.toList⟩ := by cases args; rfl
  have hc := hev W G0 [] args.toList ⟨rfl, fun i b o h => by simp at h⟩ (relG_of hgl) (fun b L n h => by simp [G0] at h) hrel
  rw [← hargs] at hc
  refine hc.mono ?_
  rintro e W' ⟨v, G', ρ', rfl, hv, _, _, hg, _, _⟩
  have hvb : v = .bool true := by
    have hA : RelA W' G' ρ' v (.d (.bool true)) := hv
    cases hA with
    | d _ _ h => cases h; rfl
  subst hvb
  rw [hvars] at hV
  obtain ⟨rfl, rfl⟩ := ChangeShapes.trodVars_none hV
  have hf := hfn (by simpa using hlen)
  refine ⟨_, rfl, ds, [], p ++ [], [], p, [], hW', ?_, ?_, ?_, keptBut_of hg, fun h => by cases h⟩
  · rw [hf]
    have hs : fn.resultTypes.size = 1 := by rw [hres]; rfl
    rw [hs, hres]
    exact ChangeShapes.trodAll_mk1 (RowKit.shut_bool hb true)
  · rw [hf]
    refine trodAll_stays hl hg (fun t ht => ?_) hA (fun x hx => hW'.lt x (by simp [hx]))
    have := List.all_eq_true.1 hr t ht
    simpa using this
  · rw [hf, hvars]
    rfl

end
end Go.Vm
end

section
/- A run that is told of its outcome alone has one outcome. Conditions: none. -/
set_option linter.unusedSimpArgs false
namespace Go.Vm

/-- As the machine against the program, where nothing is left open. -/
def RP (P : Program) (gl : Nat → List D) : Alg Prop where
  fail := False
  guard b p := b = true ∧ p
  call f args s K := ∃ r s', VEv P gl f args s r s' ∧ K r s'
  fix F st := ∃ (I : Nat → St → Prop) (n : Nat), I n st ∧ ∀ n st, I n st → F st fun st' => ∃ m, m < n ∧ I m st'
  both _ _ := False
  iter _ _ := False

section
variable {P : Program} {gl : Nat → List D}

theorem RP_fail : (RP P gl).fail = False := rfl
theorem RP_guard (b : Bool) (p : Prop) : (RP P gl).guard b p = (b = true ∧ p) := rfl
theorem RP_both (p q : Prop) : (RP P gl).both p q = False := rfl

theorem callStep_ext {f : Nat} {args : List Val} {s : Store} {K : Val → Store → Prop} (h : callStep (RP P gl) f args s K) :
    ∃ r s', K r s' ∧ ∀ K' : Val → Store → Prop, K' r s' → callStep (AP P gl) f args s K' := by
  unfold callStep at h ⊢
  obtain ⟨h1, r, s', h2, h3, h4⟩ := h
  exact ⟨_, _, h4, fun K' hK => ⟨h1, r, s', h2, h3, hK⟩⟩

theorem step_ext {i : I} {st : St} {K : St → Prop} (h : step (RP P gl) gl i st K) : ∃ st', K st' ∧ ∀ K' : St → Prop, K' st' → step (AP P gl) gl i st K' := by
  cases i
  case cl d f xs =>
    simp only [step] at h ⊢
    split at h
    · rename_i e
      obtain ⟨r, s', h1, h2⟩ := callStep_ext h
      exact ⟨_, h1, fun K' hK => by first | exact h2 _ hK | (simp only [e]; exact h2 _ hK)⟩
    · rename_i e
      obtain ⟨r, s', h1, h2⟩ := callStep_ext h
      exact ⟨_, h1, fun K' hK => by first | exact h2 _ hK | (simp only [e]; exact h2 _ hK)⟩
    · exact h.elim
  case cp d f xs =>
    simp only [step] at h ⊢
    obtain ⟨h1, r, s', h2, h3, h4⟩ := h
    exact ⟨_, h4, fun K' hK => ⟨h1, r, s', h2, h3, hK⟩⟩
  case pk d c a b =>
    simp only [step] at h ⊢
    split at h
    · rename_i t e
      try simp only [e]
      cases t <;> exact ⟨_, h, fun K' hK => hK⟩
    · exact h.elim
  case mf d f xs ws =>
    simp only [step] at h ⊢
    split at h
    · exact ⟨_, h, fun K' hK => hK⟩
    · rename_i hn
      obtain ⟨h1, h2⟩ := h
      refine ⟨_, h2, fun K' hK => ?_⟩
      first
        | exact ⟨h1, hK⟩
        | (split
           · exact (hn rfl rfl).elim
           · exact ⟨h1, hK⟩)
  case nq d neg kd y =>
    match kd with
    | 0 =>
      simp only [step] at h ⊢
      split at h
      · rename_i e; exact ⟨_, h, fun K' hK => by first | exact hK | (simp only [e]; exact hK)⟩
      · exact h.elim
      · exact h.elim
    | 1 | 2 | 3 =>
      simp only [step] at h ⊢
      split at h
      all_goals first
        | exact h.elim
        | (rename_i e; exact ⟨_, h, fun K' hK => by first | exact hK | (simp only [e]; exact hK)⟩)
        | exact ⟨_, h, fun K' hK => hK⟩
    | n + 4 => simp only [step] at h; exact h.elim
  all_goals (simp only [step] at h)
  all_goals (try simp only [step])
  all_goals (repeat' split at h)
  all_goals first
    | exact h.elim
    | exact ⟨_, h, fun K' hK => hK⟩
    | (refine ⟨_, h, fun K' hK => ?_⟩; simp only [*]; exact hK)
    | (obtain ⟨h1, h2⟩ := h; exact ⟨_, h2, fun K' hK => ⟨h1, hK⟩⟩)
    | (obtain ⟨h1, h2⟩ := h; exact h2.elim)
    | (obtain ⟨h1, h2⟩ := h; refine ⟨_, h2, fun K' hK => ?_⟩; simp only [AP_guard, and_self, *]; done)
    | (obtain ⟨h1, h2, h3⟩ := h; exact ⟨_, h3, fun K' hK => ⟨h1, h2, hK⟩⟩)
    | (obtain ⟨h1, h2, h3⟩ := h; refine ⟨_, h3, fun K' hK => ?_⟩; simp only [AP_guard, and_self, *]; done)
    | (obtain ⟨h1, h2, h3⟩ := h; exact h3.elim)

theorem steps_ext : ∀ {l : List GI} {st : St} {K : St → Prop}, steps (RP P gl) gl l st K → ∃ st', K st' ∧ ∀ K' : St → Prop, K' st' → steps (AP P gl) gl l st K'
  | [], st, K, h => ⟨st, h, fun K' hK => hK⟩
  | ⟨none, i⟩ :: l, st, K, h => by
    obtain ⟨st1, h1, h2⟩ := step_ext h
    obtain ⟨st2, h3, h4⟩ := steps_ext h1
    exact ⟨st2, h3, fun K' hK => h2 _ (h4 _ hK)⟩
  | ⟨some (s, want), i⟩ :: l, st, K, h => by
    simp only [steps] at h ⊢
    split at h
    · rename_i b e
      try simp only [e]
      cases hb : cond want b (!b) with
      | true =>
        rw [hb] at h
        simp only [cond_true] at h ⊢
        obtain ⟨st1, h1, h2⟩ := step_ext h
        obtain ⟨st2, h3, h4⟩ := steps_ext h1
        exact ⟨st2, h3, fun K' hK => h2 _ (h4 _ hK)⟩
      | false => rw [hb] at h; simp only [cond_false] at h ⊢; exact steps_ext h
    · rename_i e
      try simp only [e]
      exact steps_ext h
    · exact h.elim

/-- So many rounds, and then an outcome. -/
def Tm (F : (St → Prop) → (Ex → St → Prop) → St → Prop) (e : Ex) (st1 : St) : Nat → St → Prop
  | 0, _ => False
  | k + 1, st => ∀ (K : Ex → St → Prop) (R : St → Prop), K e st1 → (∀ st', Tm F e st1 k st' → R st') → F R K st

theorem run_ext : ∀ {c : VC} {st : St} {K : Ex → St → Prop}, run (RP P gl) gl c st K → ∃ e st', K e st' ∧ ∀ K' : Ex → St → Prop, K' e st' → run (AP P gl) gl c st K' := by
  intro c
  induction c with
  | skip => intro st K h; exact ⟨_, _, h, fun K' hK => hK⟩
  | ops l => intro st K h; obtain ⟨st', h1, h2⟩ := steps_ext h; exact ⟨_, _, h1, fun K' hK => h2 _ hK⟩
  | any l => intro st K h; obtain ⟨st', h1, h2⟩ := steps_ext h; exact ⟨_, _, h1, fun K' hK => h2 _ hK⟩
  | seq a b iha ihb =>
    intro st K h
    obtain ⟨e, st1, h1, h2⟩ := iha h
    cases e with
    | normal =>
      obtain ⟨e2, st2, h3, h4⟩ := ihb h1
      exact ⟨e2, st2, h3, fun K' hK => h2 _ (h4 _ hK)⟩
    | exit i => exact ⟨_, _, h1, fun K' hK => h2 _ hK⟩
    | ret => exact ⟨_, _, h1, fun K' hK => h2 _ hK⟩
  | cond c a b iha ihb =>
    intro st K h
    simp only [run] at h ⊢
    split at h
    · rename_i t e
      try simp only [e]
      cases t with
      | true => exact iha h
      | false => exact ihb h
    · exact h.elim
  | block i b ih =>
    intro st K h
    obtain ⟨e, st1, h1, h2⟩ := ih h
    cases e with
    | normal => exact ⟨_, _, h1, fun K' hK => h2 _ hK⟩
    | ret => exact ⟨_, _, h1, fun K' hK => h2 _ hK⟩
    | exit j =>
      simp only at h1
      cases hb : Nat.beq j i with
      | true => rw [hb] at h1; exact ⟨_, _, h1, fun K' hK => h2 _ (by simp only [hb]; exact hK)⟩
      | false => rw [hb] at h1; exact ⟨_, _, h1, fun K' hK => h2 _ (by simp only [hb]; exact hK)⟩
  | loop ts bs b ih =>
    intro st K h
    simp only [run] at h ⊢
    obtain ⟨hk, I, n, h0, hround⟩ := h
    obtain ⟨F, hF⟩ : ∃ F : (St → Prop) → (Ex → St → Prop) → St → Prop, F = fun R K st1 => run (AP P gl) gl b st1 fun x st => match x with
      | .normal => forget (AP P gl) st1.s.length ts bs st R
      | x => K x st := ⟨_, rfl⟩
    have key : ∀ n st, I n st → ∃ e st1 k, K e st1 ∧ Tm F e st1 k st := by
      intro n
      induction n using Nat.strongRecOn with
      | _ n ihn =>
        intro st hI
        obtain ⟨x, st2, h1, h2⟩ := ih (hround n st hI)
        cases x with
        | normal =>
          obtain ⟨hk2, m, hm, hI2⟩ := h1
          obtain ⟨e, st1, k, h3, h4⟩ := ihn m hm _ hI2
          refine ⟨e, st1, k + 1, h3, fun K' R hK hR => ?_⟩
          rw [hF]
          exact h2 _ ⟨hk2, hR _ h4⟩
        | exit i =>
          refine ⟨.exit i, st2, 1, h1, fun K' R hK hR => ?_⟩
          rw [hF]
          exact h2 _ hK
        | ret =>
          refine ⟨.ret, st2, 1, h1, fun K' R hK hR => ?_⟩
          rw [hF]
          exact h2 _ hK
    obtain ⟨e, st1, k, h3, h4⟩ := key n _ h0
    refine ⟨e, st1, h3, fun K' hK => ⟨hk, Tm F e st1, k, h4, fun n st hT => ?_⟩⟩
    cases n with
    | zero => exact hT.elim
    | succ n =>
      have := hT K' (fun st' => ∃ m, m < n + 1 ∧ Tm F e st1 m st') hK (fun st' h => ⟨n, Nat.lt_succ_self n, h⟩)
      rw [hF] at this
      rw [hF]
      exact this
  | rb y ps a b _ _ =>
    intro st K h
    simp only [run] at h
    split at h
    · exact h.elim
    · exact h.elim
    · exact h.elim
  | exit i => intro st K h; exact ⟨_, _, h, fun K' hK => hK⟩
  | ret => intro st K h; exact ⟨_, _, h, fun K' hK => hK⟩

theorem runF_ext {vf : VF} {args : List Val} {s : Store} {K : Val → Store → Prop} (h : runF (RP P gl) gl vf args s K) : ∃ r s', K r s' ∧ ∀ K' : Val → Store → Prop, K' r s' → runF (AP P gl) gl vf args s K' := by
  unfold runF at h ⊢
  obtain ⟨e, st, h1, h2⟩ := run_ext h
  cases e with
  | exit i => exact h1.elim
  | normal =>
    simp only at h1
    split at h1
    · rename_i r hr
      exact ⟨_, _, h1.2, fun K' hK => h2 _ (by simp only [hr]; exact ⟨h1.1, hK⟩)⟩
    · exact h1.elim
  | ret =>
    simp only at h1
    split at h1
    · rename_i r hr
      exact ⟨_, _, h1.2, fun K' hK => h2 _ (by simp only [hr]; exact ⟨h1.1, hK⟩)⟩
    · exact h1.elim

/-- A function whose outcome is told but for its values has one. -/
theorem Compiled.ext {f : Nat} {vf : VF} {args : List Val} {s : Store} {Q : Val → Store → Prop} (h : Compiled P f vf) (hr : runF (RP P gl) gl vf args s Q) : ∃ r s', Q r s' ∧ VEv P gl f args s r s' := by
  obtain ⟨r, s', h1, h2⟩ := runF_ext hr
  exact ⟨r, s', h1, h.vev (h2 _ ⟨rfl, rfl⟩)⟩

end
end Go.Vm
end
