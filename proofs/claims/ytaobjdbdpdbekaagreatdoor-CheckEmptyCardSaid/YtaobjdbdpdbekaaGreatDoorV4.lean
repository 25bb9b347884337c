/- Part of a small abstract machine over the kit. Conditions: none. -/
import Derived.Test.YtaobjdbdpdbekaaGreatDoorV3
import Derived.RangeFuncOwn
import Derived.RangeFuncCalls
import Derived.OrdersIn
import Derived.Below
import Derived.Lib.Join
import Derived.Lib.ItoaNum
import Derived.Lib.AtoiAll
section
/- Objects that have their place ahead. Conditions: none. -/
set_option linter.unusedSimpArgs false
namespace Go.Vm

section
variable {P : Program} {gl : Nat → List D} {n0 nt : Nat} {a : Act} {w w' w0 : World} {G G' G0 : Gh} {ρ ρ' ρ0 : List Nat} {lam lam' : Nat → Option Nat} {st st' : St} {K : St → Prop} {o : Oper} {Q : Exit → Act → World → Prop}

/-- A new object in a place that stands empty. -/
theorem RelS.fillOb {d id : Nat} {ob : Obj} {v : Value} {x : Val} {vo : Ob} (h : RelS gl w G ρ lam a.tmps st) (hid : ρ[id]? = some 0) (hw : Grew w ob w') (hd : d < a.tmps.size)
    (ho : RelO w' (newG w G (.obj id) 0) (ρ.set id (w.heap.size + 1)) id w.heap.size vo) (hx : RelA w' (newG w G (.obj id) 0) (ρ.set id (w.heap.size + 1)) v x) :
    RelS gl w' (newG w G (.obj id) 0) (ρ.set id (w.heap.size + 1)) lam (a.tmps.setIfInBounds d v) ({ st with s := st.s.set id vo }.set d x) := by
  have hρ : ∀ i b : Nat, ρ[i]? = some (b + 1) → (ρ.set id (w.heap.size + 1))[i]? = some (b + 1) := by
    intro i b hi
    by_cases hii : id = i
    · subst hii; rw [hid] at hi; simp at hi
    · rw [List.getElem?_set_ne hii]; exact hi
  have hlen : id < st.s.length := by rw [← h.ob.1]; exact (List.getElem?_eq_some_iff.1 hid).1
  have h0 := hw.rel (L0 := .obj id) (n0 := 0) h.lt h
  refine RelS.set (st := { st with s := st.s.set id vo }) ⟨fun t => ?_, ?_, h0.nb, ⟨by simp [h.ob.1], ?_⟩, h0.gb, h0.lt⟩ hd (.of_A hx)
  · exact (h0.tm t).tr (Keeps.refl _ _) hρ (fun _ _ h => h) (fun b n h => ⟨rfl, h⟩)
  · intro t cs' ht
    obtain ⟨b, h1, h2⟩ := h0.bx t cs' ht
    exact ⟨b, h1, RelBox.tr (Keeps.refl _ _) hρ (fun b n h => ⟨rfl, h⟩) (fun j b n h => ⟨rfl, h⟩) h2⟩
  · intro i b o hb ho'
    by_cases hii : id = i
    · subst hii
      rw [List.getElem?_set_self (by rw [h.ob.1]; exact hlen)] at hb
      simp only at ho'
      rw [List.getElem?_set_self hlen] at ho'
      simp only [Option.some.injEq] at hb ho'
      obtain rfl : w.heap.size = b := by omega
      subst ho'
      exact ho
    · rw [List.getElem?_set_ne hii] at hb
      simp only at ho'
      rw [List.getElem?_set_ne hii] at ho'
      exact (h0.ob.2 i b o hb ho').tr (Keeps.refl _ _) hρ (fun b n h => ⟨rfl, h⟩) (fun j b n h => ⟨rfl, h⟩)

/-- What an operation that makes an object comes to, wherever that has its place. -/
def AllocRun (P : Program) (o : Oper) (a : Act) (w : World) (G : Gh) (ρ : List Nat) (ob : Ob) (v : Nat → Val) : Prop :=
  ∃ (v0 : Value) (obj : Obj) (w1 : World), (execOp a.eval o).run P w = .ok (.value v0) w1 ∧ Grew w obj w1 ∧
    ∀ (id : Nat) (ρ' : List Nat), (∀ i b : Nat, ρ[i]? = some (b + 1) → ρ'[i]? = some (b + 1)) → ρ'[id]? = some (w.heap.size + 1) →
      RelO w1 (newG w G (.obj id) 0) ρ' id w.heap.size ob ∧ RelA w1 (newG w G (.obj id) 0) ρ' v0 (v id)

theorem ar_ha {e : Nat} {z : List Val} (hop : o.op = .alloc e) (hz : zeros P e = some z) : AllocRun P o a w G ρ (.box z) (fun i => .ptr i 0) := by
  obtain ⟨i, v, h1, h2, h3, h4, h5⟩ := zeros_spec hz
  have hr : (execOp a.eval o).run P w = .ok (.value (.pointer (some ⟨w.heap.size, 0, none⟩))) { w with heap := w.heap.push (.cells v.cells e) } := by
    simp only [execOp, hop, Instr.alloc, newVar, newRow, Sem.run_bind, zeroValue_run h1 h2, Result.andThen_ok, run_newObj, Sem.run_pure]
  have hw : Grew w (.cells ⟨v.cells.toList⟩ e) { w with heap := w.heap.push (.cells v.cells e) } := ⟨rfl, rfl, rfl⟩
  exact ⟨_, _, _, hr, hw, fun id ρ' hρ hi => ⟨new_box (LC := .ocell id) hw h5, .ptr _ _ _ hi⟩⟩

theorem ar_hb {e n t1 : Nat} {x : Operand} {x' : O} (p : Pre n0 gl nt w G ρ lam a st) (hop : o.op = .box e x) (hx : opd P t1 x = some x')
    (hg : (Nat.beq (cellsOf (snapN (ev gl st x'))).length n && (cellsOf (snapN (ev gl st x'))).all (noL depth)) = true) : AllocRun P o a w G ρ (.box (cellsOf (snapN (ev gl st x')))) (fun i => .ptr i 0) := by
  simp only [Bool.and_eq_true] at hg
  obtain ⟨Lx, hTx⟩ := ev_any hx p.rel
  have hA := relT_snapN hTx hg.2
  have hr : (execOp a.eval o).run P w = .ok (.value (.pointer (some ⟨w.heap.size, 0, none⟩))) { w with heap := w.heap.push (.cells (a.eval x).cells e) } := by
    simp only [execOp, hop, Instr.box, newVar, newRow, Sem.run_bind, Result.andThen_ok, run_newObj, Sem.run_pure]
  have hw : Grew w (.cells ⟨(a.eval x).cells.toList⟩ e) { w with heap := w.heap.push (.cells (a.eval x).cells e) } := ⟨rfl, rfl, rfl⟩
  refine ⟨_, _, _, hr, hw, fun id ρ' hρ hi => ⟨new_box (LC := .ocell id) hw ?_, .ptr _ _ _ hi⟩⟩
  exact (hA.keep (Keeps.refl _ _) hρ).cells hg.2

theorem ar_mm {t : Nat} (hop : o.op = .makeMap t none) : AllocRun P o a w G ρ (.map []) (fun i => .map i) := by
  have hr : (execOp a.eval o).run P w = .ok (.value (.map (some w.heap.size))) { w with heap := w.heap.push (.map #[] 0) } := by
    simp only [execOp, hop, Option.map_none, Instr.makeMap, Sem.run_bind, run_newObj, Result.andThen_ok, Sem.run_pure]
  have hw : Grew w (.map #[] 0) { w with heap := w.heap.push (.map #[] 0) } := ⟨rfl, rfl, rfl⟩
  exact ⟨_, _, _, hr, hw, fun id ρ' hρ hi => ⟨⟨#[], 0, hw.new, by rw [newG, upd_self], rfl, by simp⟩, .map _ _ hi⟩⟩

theorem ar_mk {t e sz bt : Nat} {z : List Val} {l c : Operand} {l' : O} {k : IntKind} {n : Int} (p : Pre n0 gl nt w G ρ lam a st) (hop : o.op = .makeSlice t l c) (hlc : a.eval c = a.eval l) (hl : opd P 0 l = some l')
    (hu : P.underlying t = some (.slice e)) (hn : szOf P e = some sz) (hpos : 0 < sz) (hz : zeros P e = some z) (hbt : bytesOf P e = some bt) (hb0 : 0 < bt) (e1 : ev gl st l' = .d (.int k n))
    (hg : (decide (0 ≤ n) && decide (n ≤ ((1099511627776 / bt : Nat) : Int))) = true) : AllocRun P o a w G ρ (.box (List.replicate n.toNat z).flatten) (fun i => .sl i 0 n.toNat n.toNat sz) := by
  obtain ⟨L1, h1⟩ := ev_any hl p.rel
  rw [e1] at h1
  have hv := h1.int
  simp only [Bool.and_eq_true, decide_eq_true_eq] at hg
  obtain ⟨vs, v1, v2, v3⟩ := mk_run (P := P) (w := w) (k := k) hu hn hpos hz hbt hb0 hg.1 hg.2
  have hexec : (execOp a.eval o).run P w = .ok (.value (.slice (some ⟨w.heap.size, 0, none⟩) n.toNat n.toNat)) { w with heap := w.heap.push (.cells ⟨vs⟩ e) } := by
    simp only [execOp, hop, hlc, hv, Sem.run_bind, v3, Result.andThen_ok, Sem.run_pure]
  have hw : Grew w (.cells ⟨vs⟩ e) { w with heap := w.heap.push (.cells ⟨vs⟩ e) } := ⟨rfl, rfl, rfl⟩
  refine ⟨_, _, _, hexec, hw, fun id ρ' hρ hi => ⟨new_box (LC := .ocell id) hw v2, ?_⟩⟩
  refine .sl _ _ _ _ _ _ _ hi (Nat.le_refl _) ⟨_, e, (0, 0), hw.new, ?_⟩
  simp only [List.size_toArray, v1]
  omega

/-- What stands behind an object that has its place ahead. -/
def AfterR (n0 : Nat) (gl : Nat → List D) (nt : Nat) (id : Nat) (w : World) (G : Gh) (ρ : List Nat) (K : St → Prop) (a' : Act) (w' : World) : Prop :=
  nt ≤ a'.tmps.size ∧ ∃ G' ρ' lam' st', Marks n0 w' G' a'.defers ∧ RelS gl w' G' ρ' lam' a'.tmps st' ∧ Good w G w' G' ∧ (∀ i b : Nat, i ≠ id → ρ[i]? = some b → ρ'[i]? = some b) ∧ K st'

theorem sim_fill {d id : Nat} {ob : Ob} {v : Nat → Val} (p : Pre n0 gl nt w G ρ lam a st) (hod : o.dst = some d) (hdt : d < nt) (hid : ρ[id]? = some 0) (h : AllocRun P o a w G ρ ob v)
    (hK : K ({ st with s := st.s.set id ob }.set d (v id))) : o.wp P a w (AfterR n0 gl nt id w G ρ K) Q := by
  obtain ⟨v0, obj, w1, hr, hw, h⟩ := h
  have hlt := (List.getElem?_eq_some_iff.1 hid).1
  have hρ : ∀ i b : Nat, ρ[i]? = some (b + 1) → (ρ.set id (w.heap.size + 1))[i]? = some (b + 1) := by
    intro i b hi
    by_cases hii : id = i
    · subst hii; rw [hid] at hi; simp at hi
    · rw [List.getElem?_set_ne hii]; exact hi
  obtain ⟨h1, h2⟩ := h id (ρ.set id (w.heap.size + 1)) hρ (by rw [List.getElem?_set_self hlt])
  have hgood := hw.good p.rel.lt (L0 := .obj id) (n0 := 0) (by simp)
  refine wp_value hr ⟨by rw [put_size]; exact p.sz, _, ρ.set id (w.heap.size + 1), lam, _, by rw [put_defers]; exact p.df.good hgood, ?_, hgood, fun i b hne hi => ?_, hK⟩
  · rw [hod]
    exact p.rel.fillOb hid hw (Nat.lt_of_lt_of_le hdt p.sz) h1 h2
  · rw [List.getElem?_set_ne (Ne.symm hne)]; exact hi

end
end Go.Vm
end

section
/- Which operations make objects with a place ahead. Conditions: none. -/
set_option linter.unusedSimpArgs false
namespace Go.Vm

section
variable {P : Program} {gl : Nat → List D} {n0 nt : Nat} {a : Act} {w w' w0 : World} {G G' G0 : Gh} {ρ ρ' ρ0 : List Nat} {lam lam' : Nat → Option Nat} {st st' : St} {K : St → Prop} {o : Oper} {Q : Exit → Act → World → Prop}

theorem alloc_run {an : Ann} {m : AMap} {i : I} {ob : Ob} {d : Nat} {v : Nat → Val} (p : Pre n0 gl nt w G ρ lam a st) (h : compOp P an m o = some i) (ha : allocOf gl i st = some (ob, d, v)) : AllocRun P o a w G ρ ob v := by
  unfold compOp at h
  split at h
  case h_4 =>
    rename_i e d' hop hod
    simp only [Option.bind_eq_bind, Option.bind_eq_some_iff] at h
    obtain ⟨z, hz, h⟩ := h
    split at h
    · unfold bldI at h
      split at h
      · split at h
        · split at h
          · split at h
            · simp only [Option.some.injEq] at h; subst h
              simp [allocOf] at ha
            · simp at h
          · simp at h
        · simp at h
      · simp at h
    · simp only [Option.some.injEq] at h
      subst h
      split at ha
      · simp only [allocOf, Option.some.injEq, Prod.mk.injEq] at ha
        obtain ⟨rfl, rfl, rfl⟩ := ha
        exact ar_ha hop hz
      · simp [allocOf] at ha
  case h_5 =>
    rename_i e x d' hop hod
    simp only [Option.bind_eq_bind, Option.bind_eq_some_iff, Option.some.injEq] at h
    obtain ⟨n, hn, x', hx, rfl⟩ := h
    split at ha
    · simp only [allocOf] at ha
      cases hg : (Nat.beq (cellsOf (snapN (ev gl st x'))).length n && (cellsOf (snapN (ev gl st x'))).all (noL depth)) with
      | false => rw [hg] at ha; simp at ha
      | true =>
        rw [hg] at ha
        simp only [cond_true, Option.some.injEq, Prod.mk.injEq] at ha
        obtain ⟨rfl, rfl, rfl⟩ := ha
        exact ar_hb p hop hx hg
    · simp [allocOf] at ha
  case h_15 =>
    rename_i t d' hop hod
    simp only [Option.some.injEq] at h
    subst h
    simp only [allocOf, Option.some.injEq, Prod.mk.injEq] at ha
    obtain ⟨rfl, rfl, rfl⟩ := ha
    exact ar_mm hop
  case h_21 =>
    rename_i t l c d' hop hod
    simp only [Option.bind_eq_bind, Option.bind_eq_some_iff] at h
    obtain ⟨e, he, z, hz, n, hn, b, hb, h⟩ := h
    split at h
    · rename_i hg
      simp only [Bool.and_eq_true, decide_eq_true_eq] at hg
      simp only [Option.bind_eq_some_iff, Option.some.injEq] at h
      obtain ⟨l', hl, rfl⟩ := h
      have hlc : a.eval c = a.eval l := by
        have := hg.1.1
        unfold sameTmp at this
        split at this
        · rw [Nat.eq_of_beq_eq_true this]
        · simp at this
      simp only [allocOf] at ha
      split at ha
      · rename_i k n' e1
        cases hg2 : (decide (0 ≤ n') && decide (n' ≤ ((1099511627776 / b : Nat) : Int))) with
        | false => rw [hg2] at ha; simp at ha
        | true =>
          rw [hg2] at ha
          simp only [cond_true, Option.some.injEq, Prod.mk.injEq] at ha
          obtain ⟨rfl, rfl, rfl⟩ := ha
          exact ar_mk p hop hlc hl (elemOf_some he) hn hg.1.2 hz hb hg.2 e1 hg2
      · simp at ha
    · simp at h
  all_goals
    exfalso
    revert ha
    (repeat' (first
      | (simp only [Option.bind_eq_bind, Option.bind_eq_some_iff, Option.map_eq_some_iff, Option.some.injEq, reduceCtorEq] at h)
      | (obtain ⟨_, _, h⟩ := h)
      | (subst h; simp [allocOf]; done)
      | (exact h.elim)
      | (split at h)))
  all_goals (try (intro ha; simp [allocOf] at ha; done))
  all_goals (intro ha; split at ha <;> simp [allocOf] at ha)

end
end Go.Vm
end

section
/- Regions that draw their order: any order comes to what the text's order comes to. Conditions: none. -/
set_option linter.unusedSimpArgs false
namespace Go.Vm

section
variable {P : Program} {gl : Nat → List D} {n0 nt : Nat} {a : Act} {w w' w0 : World} {G G' G0 : Gh} {ρ ρ' ρ0 : List Nat} {lam lam' : Nat → Option Nat} {st st' : St} {K : St → Prop} {o : Oper} {Q : Exit → Act → World → Prop}

theorem onPath_listed {ops : Array Oper} {listed : Array Bool} (hcl : ∀ (j : Nat) (o : Oper), ops[j]? = some o → listed.getD j true = true → ∀ e ∈ o.after.toList, Region.binds .any e = true → listed.getD e.on false = true) {x : Nat} :
    ∀ (n j : Nat) (o : Oper), ops[j]? = some o → (∀ e ∈ o.after.toList, Region.binds .any e = true → listed.getD e.on false = true) → onPath ops x n j = true → listed.getD x false = true
  | 0, j, o, _, _, h => by simp [onPath] at h
  | n + 1, j, o, ho, ha, h => by
    simp only [onPath, ho, List.any_eq_true, Bool.and_eq_true, Bool.or_eq_true] at h
    obtain ⟨e, he, hb, h⟩ := h
    have h1 := ha e he hb
    rcases h with h | h
    · rw [← Nat.eq_of_beq_eq_true h]; exact h1
    · cases ho2 : ops[e.on]? with
      | none =>
        cases n with
        | zero => simp [onPath] at h
        | succ n => simp [onPath, ho2] at h
      | some o2 =>
        refine onPath_listed hcl n e.on o2 ho2 (hcl e.on o2 ho2 ?_) h
        rw [Array.getD_eq_getD_getElem?] at h1 ⊢
        cases hx : listed[e.on]? with
        | none => rw [hx] at h1; simp at h1
        | some b => rw [hx] at h1; exact h1

theorem compOps_len {an : Ann} {nt : Nat} {all : Array Oper} : ∀ (fuel : Nat) {l : List Oper} {m : AMap} {is : List GI}, l.length ≤ fuel → compOps P an nt all m l = some is → is.length = l.length
  | _, [], m, is, _, h => by
    simp only [compOps, Option.some.injEq] at h
    subst h; rfl
  | 0, o :: l, m, is, hf, _ => by simp at hf
  | fuel + 1, o :: l, m, is, hf, h => by
    simp only [List.length_cons] at hf
    rcases compOps_cons h with ⟨g, is', h1, h3, rfl⟩ | ⟨o2, o3, l', d, ins, e, is', rfl, hx, hd, he, h3, rfl⟩
    · simp [compOps_len fuel (by omega) h3]
    · simp only [List.length_cons] at hf
      simp [compOps_len fuel (by omega) h3]

/-- The operations ahead of an append of many cells. -/
theorem compOps_pre {an : Ann} {nt : Nat} {all : Array Oper} : ∀ {l : List Oper} {m : AMap} {is : List GI}, compOps P an nt all m l = some is → ∀ (i : Nat) (o : Oper), (∀ j, j ≤ i → ∀ g, is[j]? = some g → isApI g.i = false) → l[i]? = some o →
    ∃ m' g, is[i]? = some g ∧ InsOf P an m' o g.i ∧ compGuard all o = some g.g ∧ dstOk nt o = true ∧ g.i.dst = o.dst
  | [], m, is, h, i, o, _, ho => by simp at ho
  | o :: l, m, is, h, i, o', hn, ho => by
    rcases compOps_cons h with ⟨g, is', h1, h3, rfl⟩ | ⟨o2, o3, l', d, ins, e, is', rfl, hx, hd, he, h3, rfl⟩
    · cases i with
      | zero =>
        simp only [List.getElem?_cons_zero, Option.some.injEq] at ho
        subst ho
        obtain ⟨c1, c2, c3, c4⟩ := compOne_spec h1
        exact ⟨m, g, rfl, c1, c2, c3, c4⟩
      | succ i =>
        obtain ⟨m', g', k1, k2⟩ := compOps_pre h3 i o' (fun j hj g' hg => hn (j + 1) (by omega) g' (by simpa using hg)) (by simpa using ho)
        exact ⟨m', g', by simpa using k1, k2⟩
    · obtain ⟨s, z, i', y, sz, bnd, rfl, hxs⟩ := isApx_spec hx
      have := hn 0 (Nat.zero_le _) _ rfl
      simp [isApI] at this

theorem step1_steps {g : GI} {st : St} {K : St → Prop} : step1 (AP P gl) gl g st K = steps (AP P gl) gl [g] st K := by
  obtain ⟨q, i⟩ := g
  cases q with
  | none => rfl
  | some q =>
    obtain ⟨s, want⟩ := q
    simp only [step1, steps]

/-- One operation, with a place ahead for what it makes. -/
theorem sim_gopR {ops : Array Oper} {i id : Nat} {an : Ann} {m : AMap} {g : GI} (p : Pre n0 gl nt w G ρ lam a st) (ho : ops[i]? = some o) (h : InsOf P an m o g.i)
    (hg : compGuard ops o = some g.g) (hd : dstOk nt o = true) (hdst : g.i.dst = o.dst) (hid : isAlloc g.i = true → ρ[id]? = some 0) (hs : stepR (AP P gl) gl id g st K) :
    wpOp P ops Q i (fun a' w' => nt ≤ a'.tmps.size ∧ ∃ G' ρ' lam' st', Marks n0 w' G' a'.defers ∧ RelS gl w' G' ρ' lam' a'.tmps st' ∧ Good w G w' G' ∧ (∀ i b : Nat, (isAlloc g.i = true → i ≠ id) → ρ[i]? = some b → ρ'[i]? = some b) ∧ K st') a w := by
  unfold stepR at hs
  cases ha : isAlloc g.i with
  | true =>
    rw [ha] at hs
    simp only [cond_true] at hs
    split at hs
    · rename_i ob d v e1 e2
      obtain ⟨_, hs⟩ := hs
      have hal := allocOf_spec e2
      have hcp : compOp P an m o = some g.i := by
        rcases h with h | h
        · exact h
        · rw [h] at ha; simp [isAlloc] at ha
      have hod : o.dst = some d := by rw [← hdst]; exact hal.2.2.2.2.1
      have hgn : o.guard = none := by
        rw [e1] at hg
        unfold compGuard at hg
        split at hg
        · assumption
        · split at hg <;> simp at hg
      have hdt : d < nt := by unfold dstOk at hd; rw [hod] at hd; simpa [Nat.blt_eq] using hd
      unfold wpOp
      rw [ho]
      have : Region.wanted o (yielded ops a.tmps) = true := by simp [Region.wanted, hgn]
      simp only [this, if_true]
      refine .inl ?_
      have := sim_fill (n0 := n0) (Q := Q) p hod hdt (hid ha) (alloc_run p hcp e2) hs
      refine Oper.wp_mono (fun a' w' h => ?_) this
      obtain ⟨h1, G', ρ', lam', st', h2, h3, h4, h5, h6⟩ := h
      exact ⟨h1, G', ρ', lam', st', h2, h3, h4, fun i b hi hb => h5 i b (hi (by first | rfl | trivial)) hb, h6⟩
    · exact hs.elim
  | false =>
    rw [ha] at hs
    simp only [cond_false] at hs
    rw [step1_steps] at hs
    refine wpOp_mono (fun a' w' h => ?_) (sim_gop p ho h hg hd hdst hs)
    obtain ⟨h1, G', ρ', lam', st', h2, h3, h4, h5, h6⟩ := h
    exact ⟨h1, G', ρ', lam', st', h2, h3, h4, fun i b _ hb => h5 i b hb, h6⟩

/-- Any order, up to an operation behind which none of those ahead stands. -/
theorem any_run {ops : Array Oper} {ts rest : List T} {an : Ann} {n : Nat} (_hlen : ts.length = ops.size) (hn : n ≤ ops.size)
    (hget : ∀ i, i < n → ∀ o, ops[i]? = some o → ∃ m' t, ts[i]? = some t ∧ InsOf P an m' o t.g.i ∧ compGuard ops o = some t.g.g ∧ dstOk nt o = true ∧ t.g.i.dst = o.dst)
    (hback : backEdges ops = true) (hwin : ∀ i, n ≤ i → i < ops.size → (∀ j, j < n → onPath ops j ops.size i = true) ∨ (n < i ∧ onPath ops n ops.size i = true))
    (hpair : ∀ i j, i < j → j < n → onPath ops i ops.size j = true ∨ IndT (ts.getD i ⟨0, default, {}⟩) (ts.getD j ⟨0, default, {}⟩))
    (hids : ∀ i j, i < n → j < n → i ≠ j → isAlloc (ts.getD i ⟨0, default, {}⟩).g.i = true → isAlloc (ts.getD j ⟨0, default, {}⟩).g.i = true → (ts.getD i ⟨0, default, {}⟩).id ≠ (ts.getD j ⟨0, default, {}⟩).id)
    (hfar : ∀ i, i < n → isAlloc (ts.getD i ⟨0, default, {}⟩).g.i = true → ρ0.length ≤ (ts.getD i ⟨0, default, {}⟩).id)
    (hfin : ∀ {listed : Array Bool} {w : World} {G : Gh} {ρ : List Nat} {lam : Nat → Option Nat} {a : Act} {st : St}, listed.size = ops.size → (∀ i, i < ops.size → (listed.getD i true = true ↔ i < n)) →
      Pre n0 gl nt w G ρ lam a st → Far w0 G0 ρ0 w G ρ → Chn P gl rest st K → wpAny P .any ops Q (ops.size - n) listed a w) : ∀ (r : Nat) {rem : List Nat} {listed : Array Bool} {w : World} {G : Gh} {ρ : List Nat} {lam : Nat → Option Nat} {a : Act} {st : St},
    rem.length = r → listed.size = ops.size → rem.Pairwise (· < ·) → (∀ i, i ∈ rem ↔ i < n ∧ listed.getD i true = false) → (∀ i, n ≤ i → i < ops.size → listed.getD i true = false) →
    (∀ (j : Nat) (o : Oper), ops[j]? = some o → listed.getD j true = true → ∀ e ∈ o.after.toList, Region.binds .any e = true → listed.getD e.on false = true) →
    (∀ i, i ∈ rem → isAlloc (ts.getD i ⟨0, default, {}⟩).g.i = true → ρ[(ts.getD i ⟨0, default, {}⟩).id]? = some 0) →
    Pre n0 gl nt w G ρ lam a st → Far w0 G0 ρ0 w G ρ → Chn P gl (rem.map (fun i => ts.getD i ⟨0, default, {}⟩) ++ rest) st K →
    wpAny P .any ops Q (r + (ops.size - n)) listed a w := by
  intro r
  induction r with
  | zero =>
    intro rem listed w G ρ lam a st hl hsz hsort hmem hge hcl hzero p f hs
    have : rem = [] := List.eq_nil_of_length_eq_zero hl
    subst this
    rw [Nat.zero_add]
    refine hfin hsz (fun i hi => ?_) p f hs
    constructor
    · intro h
      rcases Nat.lt_or_ge i n with h' | h'
      · exact h'
      · rw [hge i h' hi] at h; simp at h
    · intro h
      cases hl : listed.getD i true with
      | true => rfl
      | false => exact absurd ((hmem i).2 ⟨h, hl⟩) (by simp)
  | succ r ih =>
    intro rem listed w G ρ lam a st hl hsz hsort hmem hge hcl hzero p f hs
    rw [Nat.succ_add]
    have hready : ∀ i, i ∈ Region.ready .any ops listed ↔ (i < ops.size ∧ listed.getD i true = false) ∧ ∀ o, ops[i]? = some o → ∀ e ∈ o.after.toList, Region.binds .any e = true → listed.getD e.on false = true := by
      intro i
      unfold Region.ready
      rw [List.mem_filter, List.mem_range]
      constructor
      · rintro ⟨h1, h2⟩
        simp only [Bool.and_eq_true, Bool.not_eq_true'] at h2
        refine ⟨⟨h1, h2.1⟩, fun o ho e he hb => ?_⟩
        have h3 := h2.2
        rw [ho] at h3
        simp only [Option.map_some, Option.getD_some, Array.all_eq_true_iff_forall_mem, Bool.or_eq_true, Bool.not_eq_true'] at h3
        rcases h3 e (by simpa using he) with h | h
        · rw [hb] at h; simp at h
        · exact h
      · rintro ⟨⟨h1, h2⟩, h3⟩
        refine ⟨h1, ?_⟩
        simp only [Bool.and_eq_true, Bool.not_eq_true']
        refine ⟨h2, ?_⟩
        rw [Array.getElem?_eq_getElem h1]
        simp only [Option.map_some, Option.getD_some, Array.all_eq_true_iff_forall_mem, Bool.or_eq_true, Bool.not_eq_true']
        intro e he
        cases hb : Region.binds .any e with
        | false => exact .inl rfl
        | true => exact .inr (h3 _ (Array.getElem?_eq_getElem h1) e (by simpa using he) hb)
    refine ⟨fun hnil => ?_, fun i hi => ?_⟩
    · -- the first that is left may always run
      exfalso
      cases rem with
      | nil => simp at hl
      | cons i rem =>
        have hi : i ∈ Region.ready .any ops listed := by
          have hm := (hmem i).1 (by simp)
          refine (hready i).2 ⟨⟨by omega, hm.2⟩, fun o ho e he hb => ?_⟩
          have hlt : i < ops.size := by omega
          unfold backEdges at hback
          have h1 := List.all_eq_true.1 hback i (List.mem_range.2 hlt)
          rw [ho] at h1
          simp only [List.all_eq_true, Bool.or_eq_true, Bool.not_eq_true'] at h1
          have h2 : e.on < i := by
            rcases h1 e he with h | h
            · rw [hb] at h; simp at h
            · simpa [Nat.blt_eq] using h
          have h3 : e.on ∉ i :: rem := by
            intro h
            rcases List.mem_cons.1 h with h | h
            · omega
            · have := (List.pairwise_cons.1 hsort).1 e.on h; omega
          have h4 : listed.getD e.on true = true := by
            cases hl : listed.getD e.on true with
            | true => rfl
            | false => exact absurd ((hmem e.on).2 ⟨by omega, hl⟩) h3
          rw [Array.getD_eq_getD_getElem?, Array.getElem?_eq_getElem (show e.on < listed.size by omega)] at h4 ⊢
          exact h4
        rw [hnil] at hi; simp at hi
    · obtain ⟨⟨hlt, hil⟩, hia⟩ := (hready i).1 hi
      have ho : ops[i]? = some ops[i] := Array.getElem?_eq_getElem hlt
      have hin : i < n := by
        rcases Nat.lt_or_ge i n with h | h
        · exact h
        · exfalso
          cases rem with
          | nil => simp at hl
          | cons j rem =>
            have hj := (hmem j).1 (by simp)
            rcases hwin i h hlt with hw | ⟨hni, hw⟩
            · have := onPath_listed hcl ops.size i _ ho (hia _ ho) (hw j hj.1)
              have h2 := hj.2
              rw [Array.getD_eq_getD_getElem?, Array.getElem?_eq_getElem (show j < listed.size by omega)] at this h2
              simp only [Option.getD_some] at this h2
              rw [this] at h2; simp at h2
            · have := onPath_listed hcl ops.size i _ ho (hia _ ho) hw
              have h2 := hge n (Nat.le_refl _) (by omega)
              rw [Array.getD_eq_getD_getElem?, Array.getElem?_eq_getElem (show n < listed.size by omega)] at this h2
              simp only [Option.getD_some] at this h2
              rw [this] at h2; simp at h2
      have him : i ∈ rem := (hmem i).2 ⟨hin, hil⟩
      obtain ⟨l1, l2, rfl⟩ := List.append_of_mem him
      obtain ⟨m', t, hg, c1, c2, c3, c4⟩ := hget i hin _ ho
      have hgd : ts.getD i ⟨0, default, {}⟩ = t := by rw [List.getD_eq_getElem?_getD, hg]; rfl
      rw [List.map_append, List.map_cons, List.append_assoc, List.cons_append, hgd] at hs
      have hfront := chn_front (l1 := l1.map fun i => ts.getD i ⟨0, default, {}⟩) (fun x hx => by
        simp only [List.mem_map] at hx
        obtain ⟨j, hj, rfl⟩ := hx
        have hjm : j ∈ l1 ++ i :: l2 := List.mem_append_left _ hj
        have hjl := (hmem j).1 hjm
        have hji : j < i := by
          rw [List.pairwise_append] at hsort
          exact hsort.2.2 j hj i (by simp)
        rcases hpair j i hji hin with hp | hp
        · exfalso
          have := onPath_listed hcl ops.size i _ ho (hia _ ho) hp
          have h2 := hjl.2
          rw [Array.getD_eq_getD_getElem?, Array.getElem?_eq_getElem (show j < listed.size by omega)] at this h2
          simp only [Option.getD_some] at this h2
          rw [this] at h2; simp at h2
        · rwa [hgd] at hp) hs
      obtain ⟨st1, hout, hrest⟩ := hfront
      refine wpOp_mono ?_ (sim_gopR (Q := Q) p ho c1 c2 c3 c4 (fun ha => by have := hzero i him; rw [hgd] at this; exact this ha) (hout.mono (K := fun s => s = st1) rfl))
      rintro a' w' ⟨q2, G', ρ', lam', st', q1, q3, q4, q5, rfl⟩
      have hset : ∀ j d, (listed.setIfInBounds i true).getD j d = if j = i then true else listed.getD j d := by
        intro j d
        rw [Array.getD_eq_getD_getElem?, Array.getD_eq_getD_getElem?, Array.getElem?_setIfInBounds]
        by_cases h : i = j
        · subst h; simp [show i < listed.size by omega]
        · have h' : j ≠ i := fun e => h e.symm
          simp [h, h']
      rw [← List.append_assoc, ← List.map_append] at hrest
      have hmem2 : ∀ j, j ∈ l1 ++ l2 → j ∈ l1 ++ i :: l2 ∧ j ≠ i := by
        intro j hj
        rw [List.pairwise_append] at hsort
        rcases List.mem_append.1 hj with h | h
        · exact ⟨List.mem_append_left _ h, by have := hsort.2.2 j h i (by simp); omega⟩
        · exact ⟨List.mem_append_right _ (by simp [h]), by have := (List.pairwise_cons.1 hsort.2.1).1 j h; omega⟩
      refine ih (rem := l1 ++ l2) ?_ (by simp [hsz]) ?_ ?_ ?_ ?_ ?_ ⟨q3, q1, q2⟩ ⟨f.good.trans q4, fun j b hb => ?_⟩ hrest
      · simp only [List.length_append, List.length_cons] at hl ⊢; omega
      · rw [List.pairwise_append] at hsort ⊢
        exact ⟨hsort.1, (List.pairwise_cons.1 hsort.2.1).2, fun x hx y hy => hsort.2.2 x hx y (by simp [hy])⟩
      · intro j
        rw [hset]
        by_cases hj : j = i
        · subst hj
          simp only [if_true, Bool.true_eq_false, and_false, iff_false]
          intro hjm
          exact (hmem2 j hjm).2 rfl
        · simp only [hj, if_false]
          rw [← hmem j]
          simp [hj]
      · intro j h1 h2
        rw [hset, if_neg (by omega)]
        exact hge j h1 h2
      · intro j o hoj hlj e he hb
        rw [hset] at hlj ⊢
        by_cases hj : j = i
        · subst hj
          rw [hia o hoj e he hb]; simp
        · simp only [hj, if_false] at hlj
          rw [hcl j o hoj hlj e he hb]; simp
      · intro j hj ha
        obtain ⟨h1, h2⟩ := hmem2 j hj
        refine q5 _ _ (fun hai => ?_) (hzero j h1 ha)
        have := hids j i ((hmem j).1 h1).1 hin h2 ha (by rw [hgd]; exact hai)
        rw [hgd] at this; exact this
      · have hb' := f.pre j b hb
        refine q5 j b (fun hai => ?_) hb'
        have := hfar i hin (by rw [hgd]; exact hai)
        rw [hgd] at this
        have := (List.getElem?_eq_some_iff.1 hb).1
        omega

end
end Go.Vm
end

section
/- Regions that draw their order: the law, but for the tail behind an append of many cells. Conditions: none. -/
set_option linter.unusedSimpArgs false
namespace Go.Vm

section
variable {P : Program} {gl : Nat → List D} {n0 nt : Nat} {a : Act} {w w' w0 : World} {G G' G0 : Gh} {ρ ρ' ρ0 : List Nat} {lam lam' : Nat → Option Nat} {st st' : St} {K : St → Prop} {o : Oper} {Q : Exit → Act → World → Prop}

theorem Pre.drawn (p : Pre n0 gl nt w G ρ lam a st) (n : Nat) : Pre n0 gl nt { w with drawn := n } G ρ lam a st ∧ Good w G { w with drawn := n } G := by
  have hk : Keeps w G { w with drawn := n } G := ⟨fun _ _ _ h => h, fun _ _ _ h => h, fun _ _ h => h⟩
  have hs : ∀ L, SameL L L w G { w with drawn := n } G := fun _ _ _ h => ⟨rfl, h⟩
  have hg : Good w G { w with drawn := n } G := ⟨Nat.le_refl _, fun _ _ _ => ⟨rfl, rfl⟩, fun b n hb hG => absurd (p.rel.lt _ _ _ hG) (Nat.not_lt.2 hb), fun _ _ _ h => h, hk, rfl, rfl⟩
  refine ⟨⟨⟨fun t => (p.rel.tm t).tr hk (fun _ _ h => h) (fun _ _ h => h) (hs _), ?_, p.rel.nb, p.rel.ob.tr hk (fun _ => hs _) (fun _ _ => hs _), p.rel.gb.tr hk, p.rel.lt⟩, p.df.good hg, p.sz⟩, hg⟩
  intro t cs hb
  obtain ⟨b, h1, h2⟩ := p.rel.bx t cs hb
  exact ⟨b, h1, RelBox.tr hk (fun _ _ h => h) (hs _) (fun _ => hs _) h2⟩

/-- Room for what will be made. -/
theorem Pre.room (p : Pre n0 gl nt w G ρ lam a st) (n : Nat) : Pre n0 gl nt w G (ρ ++ List.replicate n 0) lam a (st.room n) := by
  have hs : ∀ L, SameL L L w G w G := fun _ _ _ h => ⟨rfl, h⟩
  have hρ : ∀ i b : Nat, ρ[i]? = some (b + 1) → (ρ ++ List.replicate n 0)[i]? = some (b + 1) := fun i b h => pre_app i _ h
  refine ⟨⟨fun t => (p.rel.tm t).tr (Keeps.refl _ _) hρ (fun _ _ h => h) (hs _), ?_, p.rel.nb, ⟨by simp [St.room, p.rel.ob.1], ?_⟩, p.rel.gb, p.rel.lt⟩, p.df, p.sz⟩
  · intro t cs hb
    obtain ⟨b, h1, h2⟩ := p.rel.bx t cs hb
    exact ⟨b, h1, RelBox.tr (Keeps.refl _ _) hρ (hs _) (fun _ => hs _) h2⟩
  · intro i b o hb ho
    rcases Nat.lt_or_ge i ρ.length with hl | hl
    · rw [List.getElem?_append_left hl] at hb
      have hl' : i < st.s.length := by rw [← p.rel.ob.1]; exact hl
      simp only [St.room] at ho
      rw [List.getElem?_append_left hl'] at ho
      exact (p.rel.ob.2 i b o hb ho).tr (Keeps.refl _ _) hρ (hs _) (fun _ => hs _)
    · rw [List.getElem?_append_right hl, List.getElem?_replicate] at hb
      split at hb <;> simp at hb

/-! ### The runs' numbers -/

theorem idsOf_ge : ∀ {l : List GI} {id j q : Nat}, (idsOf l id)[j]? = some q → id ≤ q
  | [], _, _, _, h => by simp [idsOf] at h
  | g :: l, id, j, q, h => by
    cases j with
    | zero => simp only [idsOf, List.getElem?_cons_zero, Option.some.injEq] at h; omega
    | succ j =>
      simp only [idsOf, List.getElem?_cons_succ] at h
      have := idsOf_ge h
      cases hg : isAlloc g.i <;> rw [hg] at this <;> simp only [cond_true, cond_false] at this <;> omega

theorem idsOf_room : ∀ {l : List GI} {id j q : Nat} {g : GI}, (idsOf l id)[j]? = some q → l[j]? = some g → isAlloc g.i = true → q < id + allocs l
  | [], _, _, _, _, h, _, _ => by simp [idsOf] at h
  | g' :: l, id, j, q, g, h, hg, ha => by
    cases j with
    | zero =>
      simp only [List.getElem?_cons_zero, Option.some.injEq] at hg
      subst hg
      simp only [idsOf, List.getElem?_cons_zero, Option.some.injEq] at h
      simp only [allocs, ha, cond_true]; omega
    | succ j =>
      simp only [idsOf, List.getElem?_cons_succ] at h
      have := idsOf_room h (by simpa using hg) ha
      simp only [allocs]
      cases hg' : isAlloc g'.i <;> rw [hg'] at this <;> simp only [cond_true, cond_false] at this ⊢ <;> omega

theorem idsOf_lt : ∀ {l : List GI} {id i j q q' : Nat} {g : GI}, i < j → l[i]? = some g → isAlloc g.i = true → (idsOf l id)[i]? = some q → (idsOf l id)[j]? = some q' → q < q'
  | [], _, _, _, _, _, _, _, _, _, h, _ => by simp [idsOf] at h
  | g' :: l, id, i, j, q, q', g, hij, hg, ha, h, h' => by
    cases j with
    | zero => omega
    | succ j =>
      cases i with
      | zero =>
        simp only [List.getElem?_cons_zero, Option.some.injEq] at hg
        subst hg
        simp only [idsOf, List.getElem?_cons_zero, Option.some.injEq, List.getElem?_cons_succ, ha, cond_true] at h h'
        have := idsOf_ge h'
        omega
      | succ i =>
        simp only [idsOf, List.getElem?_cons_succ] at h h'
        exact idsOf_lt (by omega) (by simpa using hg) ha h h'

/-! ### What has been looked at -/

theorem cfOf_spec {ops : Array Oper} {is : List GI} {j : Nat} : ∀ {k : Nat} {l : List Nat}, cfOf ops is j k = some l → ∀ i, i < k → ∃ b, pairQ ops is i j = some b ∧ (b = true → i ∈ l)
  | 0, l, _, i, hi => by omega
  | k + 1, l, h, i, hi => by
    simp only [cfOf] at h
    split at h
    · rename_i l' b h1 h2
      simp only [Option.some.injEq] at h
      subst h
      by_cases hik : i = k
      · subst hik
        exact ⟨b, h2, fun hb => by rw [hb]; simp⟩
      · obtain ⟨b', k1, k2⟩ := cfOf_spec h1 i (by omega)
        exact ⟨b', k1, fun hb => by cases b <;> simp [k2 hb]⟩
    · simp at h

theorem cfAll_spec {ops : Array Oper} {is : List GI} : ∀ {n : Nat} {cf : List (List Nat)}, cfAll ops is n = some cf → cf.length = n ∧ ∀ j, j < n → cfOf ops is j j = some (cf.getD j [])
  | 0, cf, h => by
    simp only [cfAll, Option.some.injEq] at h
    subst h
    exact ⟨rfl, fun j hj => by omega⟩
  | n + 1, cf, h => by
    simp only [cfAll] at h
    split at h
    · rename_i l c h1 h2
      simp only [Option.some.injEq] at h
      subst h
      obtain ⟨k1, k2⟩ := cfAll_spec h1
      refine ⟨by simp [k1], fun j hj => ?_⟩
      by_cases hjn : j = n
      · subst hjn
        rw [List.getD_eq_getElem?_getD, List.getElem?_append_right (by omega), k1]
        simpa using h2
      · rw [List.getD_eq_getElem?_getD, List.getElem?_append_left (by omega), ← List.getD_eq_getElem?_getD]
        exact k2 j (by omega)
    · simp at h

theorem chn_out : ∀ {ts : List T} {st : St} {K : St → Prop}, Chn P gl ts st K → ∀ t, t ∈ ts → ∃ s1 s2, OutG P gl t.id t.g s1 s2 t.E
  | [], _, _, _, t, ht => by simp at ht
  | x :: ts, st, K, h, t, ht => by
    obtain ⟨st', h1, h2⟩ := h
    rcases List.mem_cons.1 ht with rfl | ht
    · exact ⟨st, st', h1⟩
    · exact chn_out h2 t ht

theorem ind_look {x y : T} (hH : indepH x.g y.g = true) (h : Look x y) : IndT x y := by
  obtain ⟨fx, fy, cx, cy, h⟩ := h
  unfold fpOk at h
  simp only [Bool.and_eq_true] at h
  obtain ⟨⟨⟨⟨⟨⟨⟨h1, h2⟩, h3⟩, h4⟩, h5⟩, h6⟩, h7⟩, h8⟩ := h
  refine ⟨hH, fun t ht => ?_, fun t ht => ?_, ind_of cx cy h3 h4 h5 h6 h7 h8⟩
  · rw [cx.k] at ht
    have := disj_spec h1 t ht
    exact ⟨fun h => this (List.mem_append_left _ h), fun h => this (List.mem_append_right _ h)⟩
  · rw [cy.k] at ht
    have := disj_spec h2 t ht
    exact ⟨fun h => this (List.mem_append_left _ h), fun h => this (List.mem_append_right _ h)⟩

theorem ind_static {x y : T} (hx : ∃ s1 s2, OutG P gl x.id x.g s1 s2 x.E) (hy : ∃ s1 s2, OutG P gl y.id y.g s1 s2 y.E) (hH : indepH x.g y.g = true) (hS : indepS x.g y.g = true) : IndT x y := by
  obtain ⟨_, _, hx⟩ := hx
  obtain ⟨_, _, hy⟩ := hy
  have hH' := hH
  unfold indepH at hH'
  unfold indepS at hS
  simp only [Bool.and_eq_true, Bool.not_eq_true', Bool.and_eq_false_iff] at hH' hS
  obtain ⟨⟨⟨d1, d2⟩, d3⟩, d4⟩ := hH'
  obtain ⟨⟨⟨e1, e2⟩, e3⟩, e4⟩ := hS
  have d1 := disj_spec d1
  have d2 := disj_spec d2
  have e1 := disj_spec e1
  have e2 := disj_spec e2
  refine ⟨hH, fun t ht => ⟨fun h => e1 t (hx.k t ht) (List.mem_append_left _ h), fun h => d2 t h (List.mem_append_left _ (rd_g (kl_sub (hx.k t ht))))⟩, fun t ht => ⟨e2 t (hy.k t ht), fun h => d1 t h (List.mem_append_left _ (rd_g (kl_sub (hy.k t ht))))⟩, ?_⟩
  have side : ∀ {X Y : Eff}, X.rd = [] ∧ X.ro = [] ∧ X.len = none → X.ws = [] → IndE X Y := by
    intro X Y h1 h2
    refine ⟨fun u _ => ?_, fun u hu => by rw [h2] at hu; simp at hu, fun u hu => by rw [h2] at hu; simp at hu, ⟨fun i ob _ q hq => by rw [h1.1] at hq; simp at hq, fun n _ => ⟨by simp [h1.1], by simp [h1.2.1], h1.2.2⟩⟩, ⟨fun i ob hu => by rw [h2] at hu; simp at hu, fun n hn => by rw [h1.2.2] at hn; simp at hn⟩⟩
    cases u with
    | c i off v => exact ⟨by simp [h1.1], by simp [h1.2.1]⟩
    | o i ob => exact ⟨by simp [h1.1], by simp [h1.2.1]⟩
    | n ob => exact h1.2.2
  have side' : ∀ {X Y : Eff}, Y.rd = [] ∧ Y.ro = [] ∧ Y.len = none → Y.ws = [] → IndE X Y := by
    intro X Y h1 h2
    have := side (Y := X) h1 h2
    exact ⟨this.yx, this.xy, fun u _ v hv => by rw [h2] at hv; simp at hv, this.byx, this.bxy⟩
  cases hxr : x.g.i.rs with
  | false =>
    have hws : x.g.i.ws = false := by
      cases h : x.g.i.ws with
      | false => rfl
      | true => rw [ws_rs h] at hxr; simp at hxr
    exact side (hx.r0 hxr) (hx.w0 hws).1
  | true =>
    cases hyr : y.g.i.rs with
    | false =>
      have hws : y.g.i.ws = false := by
        cases h : y.g.i.ws with
        | false => rfl
        | true => rw [ws_rs h] at hyr; simp at hyr
      exact side' (hy.r0 hyr) (hy.w0 hws).1
    | true =>
      have hxw : x.g.i.ws = false := by rcases e3 with h | h; exact h; rw [hyr] at h; simp at h
      have hyw : y.g.i.ws = false := by rcases e4 with h | h; exact h; rw [hxr] at h; simp at h
      have h1 := hx.w0 hxw
      have h2 := hy.w0 hyw
      exact ⟨by simp [h2.1], by simp [h1.1], by simp [h1.1], ⟨by simp [h2.1], fun n hn => by rw [h2.2] at hn; simp at hn⟩, ⟨by simp [h1.1], fun n hn => by rw [h1.2] at hn; simp at hn⟩⟩

theorem getT {ts : List T} {i : Nat} (h : i < ts.length) : ts[i]? = some (ts.getD i ⟨0, default, {}⟩) := by
  rw [List.getD_eq_getElem?_getD, List.getElem?_eq_getElem h]; rfl

/-- What is to be shown of the operations behind (and of) an append of many cells. -/
def TailLaw (P : Program) (gl : Nat → List D) : Prop :=
  ∀ {n0 nt : Nat} {an : Ann} {m : AMap} {ops : Array Oper} {is : List GI} {ts : List T} {k : Nat} {listed : Array Bool} {w w0 : World} {G G0 : Gh} {ρ ρ0 : List Nat} {lam : Nat → Option Nat} {a : Act} {st : St} {K : St → Prop} {Q : Exit → Act → World → Prop},
    compOps P an nt ops m ops.toList = some is → ts.map (·.g) = is → tailAt is = some k → tailOk ops is k = true → backEdges ops = true → listed.size = ops.size → (∀ i, i < ops.size → (listed.getD i true = true ↔ i < k)) →
    Pre n0 gl nt w G ρ lam a st → Far w0 G0 ρ0 w G ρ → Chn P gl (ts.drop k) st K → (∀ i j, i < j → k + 3 ≤ i → j < ops.size → onPath ops i ops.size j = true ∨ IndT (ts.getD i ⟨0, default, {}⟩) (ts.getD j ⟨0, default, {}⟩)) → (∀ a' w', After n0 gl nt w0 G0 ρ0 K a' w' → Q .normal a' w') → wpAny P .any ops Q (ops.size - k) listed a w

theorem ite_some {α : Type} {b : Bool} {x : Option α} {y : α} (h : (if b = true then x else none) = some y) : b = true ∧ x = some y := by
  cases b
  · simp at h
  · exact ⟨rfl, by simpa using h⟩

theorem anyLaw (P : Program) (gl : Nat → List D) (htail : TailLaw P gl) : AnyLaw P gl := by
  intro n0 nt an m id ops is cf w G ρ lam a st K hc hok p hs
  unfold anyCf at hok
  obtain ⟨hcond, hok⟩ := ite_some hok
  · simp only [Bool.and_eq_true, List.all_eq_true, Bool.not_eq_true'] at hcond
    obtain ⟨⟨⟨h1, h2⟩, h3⟩, h4⟩ := hcond
    obtain ⟨cl, cs⟩ := cfAll_spec hok
    refine wp_region_any h1 ?_
    obtain ⟨p', hg⟩ := p.drawn (w.drawn + 1)
    have pr := p'.room (allocs is)
    obtain ⟨ts, k1, k2, k3, k4⟩ := chn_of (acc := []) (ts := []) h3 (by simp) rfl hs
    have hil := compOps_len ops.toList.length (Nat.le_refl _) hc
    have htl : ts.length = ops.size := by
      have := congrArg List.length k2
      simp only [List.length_map] at this
      rw [this, hil]; simp
    have hisg : ∀ i, i < ops.size → is[i]? = some (ts.getD i ⟨0, default, {}⟩).g := by
      intro i hi
      rw [← k2, List.getElem?_map, getT (by omega)]; rfl
    have hidg : ∀ i, i < ops.size → (idsOf is st.s.length)[i]? = some (ts.getD i ⟨0, default, {}⟩).id := by
      intro i hi
      rw [← k3, List.getElem?_map, getT (by omega)]; rfl
    have hpair : ∀ i j, i < j → j < ops.size → inTail (tailAt is) i j = false → onPath ops i ops.size j = true ∨ IndT (ts.getD i ⟨0, default, {}⟩) (ts.getD j ⟨0, default, {}⟩) := by
      intro i j hij hj hnt
      obtain ⟨b, q1, q2⟩ := cfOf_spec (cs j hj) i hij
      unfold pairQ at q1
      rw [hisg i (by omega), hisg j hj] at q1
      simp only [hnt, Bool.or_false] at q1
      split at q1
      · rename_i hp; exact .inl hp
      · right
        split at q1
        · rename_i hH
          simp only [Option.some.injEq] at q1
          cases hS : indepS (ts.getD i ⟨0, default, {}⟩).g (ts.getD j ⟨0, default, {}⟩).g with
          | true => exact ind_static (chn_out k1 _ (List.mem_of_getElem? (getT (by omega)))) (chn_out k1 _ (List.mem_of_getElem? (getT (by omega)))) hH hS
          | false =>
            rw [hS] at q1
            obtain ⟨ti, r1, r2⟩ := k4 j _ (getT (by omega)) i (q2 q1.symm)
            rw [List.nil_append, getT (by omega)] at r1
            simp only [Option.some.injEq] at r1
            subst r1
            exact ind_look hH r2
        · simp at q1
    have hids : ∀ i j, i < ops.size → j < ops.size → i ≠ j → isAlloc (ts.getD i ⟨0, default, {}⟩).g.i = true → isAlloc (ts.getD j ⟨0, default, {}⟩).g.i = true → (ts.getD i ⟨0, default, {}⟩).id ≠ (ts.getD j ⟨0, default, {}⟩).id := by
      intro i j hi hj hne ai aj
      rcases Nat.lt_or_gt_of_ne hne with h | h
      · have := idsOf_lt h (hisg i hi) ai (hidg i hi) (hidg j hj); omega
      · have := idsOf_lt h (hisg j hj) aj (hidg j hj) (hidg i hi); omega
    have hfar : ∀ i, i < ops.size → isAlloc (ts.getD i ⟨0, default, {}⟩).g.i = true → ρ.length ≤ (ts.getD i ⟨0, default, {}⟩).id := by
      intro i hi _
      rw [p.rel.ob.1]
      exact idsOf_ge (hidg i hi)
    have hzero : ∀ i, i < ops.size → isAlloc (ts.getD i ⟨0, default, {}⟩).g.i = true → (ρ ++ List.replicate (allocs is) 0)[(ts.getD i ⟨0, default, {}⟩).id]? = some 0 := by
      intro i hi ha
      have hr := idsOf_room (hidg i hi) (hisg i hi) ha
      have hf := hfar i hi ha
      rw [List.getElem?_append_right hf, List.getElem?_replicate, if_pos (by rw [p.rel.ob.1] at hf ⊢; omega)]
    have hf0 : Far w G ρ { w with drawn := w.drawn + 1 } G (ρ ++ List.replicate (allocs is) 0) := ⟨hg, fun i b h => pre_app i b h⟩
    have hlisted : ∀ (n : Nat), n ≤ ops.size → ∀ i, i ∈ List.range n ↔ i < n ∧ (Array.replicate ops.size false).getD i true = false := by
      intro n hn i
      simp only [List.mem_range]
      constructor
      · intro h; refine ⟨h, ?_⟩; rw [Array.getD_eq_getD_getElem?]; simp [show i < ops.size by omega]
      · exact fun h => h.1
    have hall : ∀ (n : Nat), ∀ i, n ≤ i → i < ops.size → (Array.replicate ops.size false).getD i true = false := by
      intro n i _ hi
      rw [Array.getD_eq_getD_getElem?]; simp [hi]
    have hcl : ∀ (j : Nat) (o : Oper), ops[j]? = some o → (Array.replicate ops.size false).getD j true = true → ∀ e ∈ o.after.toList, Region.binds .any e = true → (Array.replicate ops.size false).getD e.on false = true := by
      intro j o hoj hl
      have hj : j < ops.size := by
        rcases Nat.lt_or_ge j ops.size with h | h
        · exact h
        · rw [Array.getElem?_eq_none h] at hoj; simp at hoj
      rw [Array.getD_eq_getD_getElem?] at hl
      simp [hj] at hl
    have hmapn : ∀ (n : Nat), n ≤ ops.size → ((List.range n).map fun i => ts.getD i ⟨0, default, {}⟩) = ts.take n := by
      intro n hn
      apply List.ext_getElem?
      intro i
      rw [List.getElem?_map, List.getElem?_take]
      by_cases hi : i < n
      · rw [List.getElem?_range hi, if_pos hi, getT (by omega)]; rfl
      · rw [if_neg hi, List.getElem?_eq_none (by simpa using hi)]; rfl
    cases ht : tailAt is with
    | none =>
      have hnt : ∀ i j, inTail (tailAt is) i j = false := fun i j => by rw [ht]; rfl
      have hnx : ∀ j : Nat, ∀ g, is[j]? = some g → isApI g.i = false := by
        intro j g hj
        unfold tailAt at ht
        rw [List.findIdx?_eq_none_iff] at ht
        simpa using ht g (List.mem_of_getElem? hj)
      have := any_run (P := P) (gl := gl) (n0 := n0) (nt := nt) (w0 := w) (G0 := G) (ρ0 := ρ) (K := K .normal) (Q := Post n0 gl nt w G ρ K) (ops := ops) (ts := ts) (rest := []) (an := an) (n := ops.size) htl (Nat.le_refl _)
        (fun i hi o ho => by
          obtain ⟨m', g, q1, q2⟩ := compOps_pre hc i o (fun j _ g hg => hnx j g hg) (by simpa using ho)
          rw [hisg i hi] at q1
          simp only [Option.some.injEq] at q1
          subst q1
          exact ⟨m', _, getT (by omega), q2⟩)
        h2 (fun i h h' => by omega) (fun i j hij hj => hpair i j hij hj (hnt i j)) hids hfar
        (fun {listed w' G' ρ' lam' a' st'} hsz hli pf ff hch => by
          rw [Nat.sub_self]
          refine ⟨?_, ff.after (pf.after hch)⟩
          unfold Region.ready
          rw [List.filter_eq_nil_iff]
          intro i hi
          have := (hli i (List.mem_range.1 hi)).2 (List.mem_range.1 hi)
          simp [this])
        ops.size (rem := List.range ops.size) (listed := Array.replicate ops.size false) (by simp) (by simp) List.pairwise_lt_range (hlisted _ (Nat.le_refl _)) (hall _) hcl
        (fun i hi ha => hzero i (List.mem_range.1 hi) ha) pr hf0 (by rw [hmapn _ (Nat.le_refl _), List.take_of_length_le (by omega), List.append_nil]; exact k1)
      rwa [Nat.sub_self, Nat.add_zero] at this
    | some k =>
      rw [ht] at h4
      simp only at h4
      have hkl : k < ops.size := by
        unfold tailAt at ht
        have := (List.findIdx?_eq_some_iff_getElem.1 ht).1
        rw [hil] at this; simpa using this
      have hnx : ∀ j : Nat, j < k → ∀ g, is[j]? = some g → isApI g.i = false := by
        intro j hj g hg
        unfold tailAt at ht
        obtain ⟨q1, q2, q3⟩ := List.findIdx?_eq_some_iff_getElem.1 ht
        have := q3 j hj
        rw [List.getElem?_eq_getElem (by omega)] at hg
        simp only [Option.some.injEq] at hg
        rw [hg] at this
        simpa using this
      have hnt : ∀ i j, j < k → inTail (tailAt is) i j = false := by
        intro i j hj
        rw [ht]
        unfold inTail
        have : Nat.blt (k + 2) j = false := by
          rw [Bool.eq_false_iff]; intro h; rw [Nat.blt_eq] at h; omega
        simp [this]
      have hwin : ∀ i, k ≤ i → i < ops.size → (∀ j, j < k → onPath ops j ops.size i = true) ∨ (k < i ∧ onPath ops k ops.size i = true) := by
        unfold tailOk at h4
        split at h4
        · split at h4
          · simp only [Bool.and_eq_true, List.all_eq_true, List.mem_range, Bool.or_eq_true] at h4
            intro i hi hi2
            by_cases hik : i = k
            · subst hik; exact .inl fun j hj => h4.1.1.1 j hj
            · refine .inr ⟨by omega, ?_⟩
              rcases h4.1.1.2 i hi2 with h | h
              · have := Nat.le_of_ble_eq_true h; omega
              · exact h
          · simp at h4
        · simp at h4
      have := any_run (P := P) (gl := gl) (n0 := n0) (nt := nt) (w0 := w) (G0 := G) (ρ0 := ρ) (K := K .normal) (Q := Post n0 gl nt w G ρ K) (ops := ops) (ts := ts) (rest := ts.drop k) (an := an) (n := k) htl (by omega)
        (fun i hi o ho => by
          obtain ⟨m', g, q1, q2⟩ := compOps_pre hc i o (fun j hj g hg => hnx j (by omega) g hg) (by simpa using ho)
          rw [hisg i (by omega)] at q1
          simp only [Option.some.injEq] at q1
          subst q1
          exact ⟨m', _, getT (by omega), q2⟩)
        h2 hwin (fun i j hij hj => hpair i j hij (by omega) (hnt i j hj)) (fun i j hi hj => hids i j (by omega) (by omega)) (fun i hi => hfar i (by omega))
        (fun {listed w' G' ρ' lam' a' st'} hsz hli pf ff hch => htail hc k2 ht h4 h2 hsz hli pf ff hch (fun i j hij hi hj => hpair i j hij hj (by
          rw [ht]
          unfold inTail
          have q1 : Nat.beq i (k + 1) = false := by rw [Bool.eq_false_iff]; intro h; have := Nat.eq_of_beq_eq_true h; omega
          have q2 : Nat.beq i (k + 2) = false := by rw [Bool.eq_false_iff]; intro h; have := Nat.eq_of_beq_eq_true h; omega
          simp [q1, q2])) fun a' w' h => h)
        k (rem := List.range k) (listed := Array.replicate ops.size false) (by simp) (by simp) List.pairwise_lt_range (hlisted _ (by omega)) (hall _) hcl
        (fun i hi ha => hzero i (by have := List.mem_range.1 hi; omega) ha) pr hf0 (by rw [hmapn _ (by omega), List.take_append_drop]; exact k1)
      rwa [show k + (ops.size - k) = ops.size by omega] at this

end
end Go.Vm
end

section
/- What stands behind an append of many cells: exact runs. Conditions: none. -/
set_option linter.unusedSimpArgs false
namespace Go.Vm

section
variable {P : Program} {gl : Nat → List D} {n0 nt : Nat} {a : Act} {w w' w0 : World} {G G' G0 : Gh} {ρ ρ' ρ0 : List Nat} {lam lam' : Nat → Option Nat} {st st' : St} {K : St → Prop} {o : Oper} {Q : Exit → Act → World → Prop}

/-- A block that is nobody's box. -/
def NB (G : Gh) (b : Nat) : Prop := ∃ L n, G b = some (L, n) ∧ (∀ i, L ≠ .obj i) ∧ ∀ t, L ≠ .bbox t

theorem NB.relab {b : Nat} {s d : Loc} (h : NB G b) (hd : (∀ i, d ≠ .obj i) ∧ ∀ t, d ≠ .bbox t) : NB (relab (swapL s d) G) b := by
  obtain ⟨L, n, h1, h2, h3⟩ := h
  refine ⟨swapL s d L, n, relab_some h1, ?_⟩
  unfold swapL
  split
  · exact hd
  · exact ⟨h2, h3⟩

/-- An operation's exact run, whatever the world is outside the block that it writes. -/
inductive PostRun (P : Program) (gl : Nat → List D) (w : World) (G : Gh) (ρ : List Nat) (lam : Nat → Option Nat) (a : Act) (K : St → Prop) (o : Oper) (b : Nat) : Prop
  | st (b2 off : Nat) (vs : List Value) (c : Array Value) (E : TypeId) (fz : Nat × Nat) (G' : Gh) (st' : St) : b2 ≠ b → o.dst = none → w.heap[b2]? = some (.cells c E fz) → off + vs.length ≤ c.size →
      (∀ w' : World, w'.heap[b2]? = some (.cells c E fz) → (execOp a.eval o).run P w' = .ok .skip (w'.setCells b2 off vs)) → RelS gl (w.setCells b2 off vs) G' ρ lam a.tmps st' → Good w G (w.setCells b2 off vs) G' → NB G' b → K st' → PostRun P gl w G ρ lam a K o b
  | va (d : Nat) (v : Value) (st' : St) : o.dst = some d → (∀ w' : World, (execOp a.eval o).run P w' = .ok (.value v) w') → RelS gl w G ρ lam (a.tmps.setIfInBounds d v) st' → K st' → PostRun P gl w G ρ lam a K o b

theorem box_store {b b2 off t n : Nat} {cs : List Val} {L : Loc} {LC : Nat → Loc} {x y : Operand} (hbox : RelBox w G ρ b2 L LC cs) (hop : o.op = .store t x y) (hv : a.eval x = .pointer (some ⟨b2, off, none⟩)) (hsz : (a.eval y).cells.size = n) (hn : off + n ≤ cs.length) (hz : szOf P t = some n) (h1 : ∀ u ∈ (a.eval y).cells.toList, u.oneCell' = true)
    (hnb : NB G b) (hL : (∃ i, L = .obj i) ∨ ∃ t, L = .bbox t) :
    ∃ (c : Array Value) (E : TypeId) (fz : Nat × Nat), b2 ≠ b ∧ w.heap[b2]? = some (.cells c E fz) ∧ off + (a.eval y).cells.toList.length ≤ c.size ∧
      ∀ w' : World, w'.heap[b2]? = some (.cells c E fz) → (execOp a.eval o).run P w' = .ok .skip (w'.setCells b2 off (a.eval y).cells.toList) := by
  obtain ⟨c, E, fz, e1, e2, e3, e4, e5⟩ := hbox
  refine ⟨c, E, fz, ?_, e1, by rw [Array.length_toList]; omega, fun w' hw' => ?_⟩
  · rintro rfl
    obtain ⟨L', n', h2, h3, h4⟩ := hnb
    rw [e3] at h2
    simp only [Option.some.injEq, Prod.mk.injEq] at h2
    obtain ⟨rfl, _⟩ := h2
    rcases hL with ⟨i, rfl⟩ | ⟨t, rfl⟩
    · exact h3 i rfl
    · exact h4 t rfl
  · have := storeAt_run (P := P) (w := w') (t := t) (v := a.eval y) (off := off) hw' e2 (by omega) (by rw [hsz]; exact hz) h1
    simp only [execOp, hop, hv, Sem.run_bind, this, Result.andThen_ok, Sem.run_pure]

theorem post_ls {t tb off n t1 t2 b : Nat} {x y : Operand} {x' y' : O} (p : Pre n0 gl nt w G ρ lam a st) (hnb : NB G b) (hod : o.dst = none) (hop : o.op = .store t x y) (hx : opd P t1 x = some x') (hy : opd P t2 y = some y')
    (hz : szOf P t = some n) (hs : step (AP P gl) gl (.ls x' tb off y' n) st K) : PostRun P gl w G ρ lam a K o b := by
  obtain ⟨L1, hr⟩ := ev_any hx p.rel
  simp only [step] at hs
  split at hs
  · rename_i t' off' cs e1 e2
    obtain ⟨hg, hs⟩ := hs
    simp only [Bool.and_eq_true] at hg
    obtain ⟨⟨⟨⟨ht, ho⟩, hn1⟩, hn2⟩, hok⟩ := hg
    obtain rfl : t' = tb := Nat.eq_of_beq_eq_true ht
    obtain rfl : off' = off := Nat.eq_of_beq_eq_true ho
    have hn1 : (cellsOf (ev gl st y')).length = n := Nat.eq_of_beq_eq_true hn1
    rw [e1] at hr
    obtain ⟨b', hb, hv⟩ := hr
    obtain ⟨b'', hb', hbox⟩ := p.rel.bx t' cs e2
    rw [hb'] at hb
    simp only [Option.some.injEq] at hb
    subst hb
    rcases stored_cases p hy hok with ⟨hk, hL, h1⟩ | ⟨s, sz, l, rfl, hts, hk, hcs, hvs, h1, hV⟩
    · have hsz : (a.eval y).cells.size = n := by rw [← hn1, ← hL.length, Array.length_toList]
      obtain ⟨c, E, fz, q1, q2, q3, q4⟩ := box_store hbox hop hv hsz (Nat.le_of_ble_eq_true hn2) hz h1 hnb (.inr ⟨_, rfl⟩)
      obtain ⟨hrel, hgood⟩ := RelS.writesB p.rel e2 hb' hL
      rw [hk] at hs
      exact .st _ _ _ c E fz G _ q1 hod q2 q3 q4 hrel hgood hnb hs
    · have hsz : (a.eval y).cells.size = n := by rw [← hn1, hcs, ← Array.length_toList, hvs]; rfl
      obtain ⟨c, E, fz, q1, q2, q3, q4⟩ := box_store hbox hop hv hsz (Nat.le_of_ble_eq_true hn2) hz (by rw [hvs]; simpa using h1) hnb (.inr ⟨_, rfl⟩)
      have hgo := p.rel.letGo (s := s) (L := .bcell t' off')
      have hV' : RelV w (relab (swapL (.slot s) (.bcell t' off')) G) ρ (.bcell t' off') (a.eval y) (.own sz l) := by
        have := relab_same (w := w) (G := G) (swapL (.slot s) (.bcell t' off')) (.slot s)
        rw [swapL_self] at this
        exact hV.tr (relab_keeps _) (fun _ _ h => h) this
      obtain ⟨hrel, hgood⟩ := RelS.writeB (off := off') hgo (show (st.set s .undef).bx t' = some cs from e2) hb' hV'
      rw [hk, hcs] at hs
      rw [hvs] at q3 q4
      rw [← setCells_one] at hrel hgood
      exact .st _ _ _ c E fz _ _ q1 hod q2 q3 q4 hrel ((swap_good p.rel.lt (by simp) (by simp)).trans hgood) (hnb.relab ⟨by simp, by simp⟩) hs
  · exact hs.elim

theorem post_hs {t n t1 t2 b0 : Nat} {x y : Operand} {x' y' : O} (p : Pre n0 gl nt w G ρ lam a st) (hnb : NB G b0) (hod : o.dst = none) (hop : o.op = .store t x y) (hx : opd P t1 x = some x') (hy : opd P t2 y = some y')
    (hz : szOf P t = some n) (hs : step (AP P gl) gl (.hs x' y' n) st K) : PostRun P gl w G ρ lam a K o b0 := by
  obtain ⟨L1, hr⟩ := ev_any hx p.rel
  simp only [step] at hs
  split at hs
  · rename_i i off e1
    rw [e1] at hr
    have hr' : RelA w G ρ (a.eval x) (.ptr i off) := hr
    obtain ⟨b, hb, hv1⟩ : ∃ b, ρ[i]? = some (b + 1) ∧ a.eval x = .pointer (some ⟨b, off, none⟩) := by
      cases hv1 : a.eval x <;> rw [hv1] at hr' <;> cases hr'
      exact ⟨_, ‹_›, rfl⟩
    split at hs
    · rename_i cs e2
      obtain ⟨hg, hs⟩ := hs
      simp only [Bool.and_eq_true] at hg
      obtain ⟨⟨hn1, hn2⟩, hok⟩ := hg
      have hn1 : (cellsOf (ev gl st y')).length = n := Nat.eq_of_beq_eq_true hn1
      have hbox : RelBox w G ρ b (.obj i) (.ocell i) cs := by have := p.rel.ob.at hb; rwa [e2] at this
      rcases stored_cases p hy hok with ⟨hk, hL, h1⟩ | ⟨s, sz, l, rfl, hts, hk, hcs, hvs, h1, hV⟩
      · have hsz : (a.eval y).cells.size = n := by rw [← hn1, ← hL.length, Array.length_toList]
        obtain ⟨c, E, fz, q1, q2, q3, q4⟩ := box_store hbox hop hv1 hsz (Nat.le_of_ble_eq_true hn2) hz h1 hnb (.inl ⟨_, rfl⟩)
        obtain ⟨hrel, hgood⟩ := RelS.writesO hb p.rel e2 hL
        rw [hk] at hs
        exact .st _ _ _ c E fz G _ q1 hod q2 q3 q4 hrel hgood hnb hs
      · have hsz : (a.eval y).cells.size = n := by rw [← hn1, hcs, ← Array.length_toList, hvs]; rfl
        obtain ⟨c, E, fz, q1, q2, q3, q4⟩ := box_store hbox hop hv1 hsz (Nat.le_of_ble_eq_true hn2) hz (by rw [hvs]; simpa using h1) hnb (.inl ⟨_, rfl⟩)
        have hgo := p.rel.letGo (s := s) (L := .ocell i off)
        have hV' : RelV w (relab (swapL (.slot s) (.ocell i off)) G) ρ (.ocell i off) (a.eval y) (.own sz l) := by
          have := relab_same (w := w) (G := G) (swapL (.slot s) (.ocell i off)) (.slot s)
          rw [swapL_self] at this
          exact hV.tr (relab_keeps _) (fun _ _ h => h) this
        obtain ⟨hrel, hgood⟩ := RelS.writeO (off := off) hgo (show (st.set s .undef).s.getD i .dead = .box cs from e2) hb hV'
        rw [hk, hcs] at hs
        rw [hvs] at q3 q4
        rw [← setCells_one] at hrel hgood
        exact .st _ _ _ c E fz _ _ q1 hod q2 q3 q4 hrel ((swap_good p.rel.lt (by simp) (by simp)).trans hgood) (hnb.relab ⟨by simp, by simp⟩) hs
    · exact hs.elim
  · exact hs.elim

theorem post_fa {d f b0 : Nat} {x : Operand} {x' : O} {t t1 n : Nat} {fs : Array Field} {fl : Field} (p : Pre n0 gl nt w G ρ lam a st) (hod : o.dst = some d) (hdt : d < nt) (hop : o.op = .fieldAddr t x f) (hx : opd P t1 x = some x')
    (hu : P.underlying t = some (.struct fs)) (hf : fs[f]? = some fl) (hz : szOf P fl.type = some n) (hpos : 0 < n) (hs : step (AP P gl) gl (.fa d x' fl.offset) st K) : PostRun P gl w G ρ lam a K o b0 := by
  obtain ⟨L1, h1⟩ := ev_any hx p.rel
  have hda : d < a.tmps.size := Nat.lt_of_lt_of_le hdt p.sz
  have hexec : ∀ b off, a.eval x = .pointer (some ⟨b, off, none⟩) → ∀ w : World, (execOp a.eval o).run P w = .ok (.value (.pointer (some ⟨b, off + fl.offset, none⟩))) w := by
    intro b off hv w
    have hn : ¬ n = 0 := by omega
    simp only [execOp, hop, Instr.fieldAt, Sem.run_bind, underlying_run hu, Result.andThen_ok, hf, hv, Instr.sureAddr, Sem.run_pure, fieldPlace, szOf_run hz, Sem.run_ite, if_neg hn, Addr.add_mid]
  simp only [step] at hs
  split at hs
  · rename_i i off e1
    rw [e1] at h1
    have h1' : RelA w G ρ (a.eval x) (.ptr i off) := h1
    obtain ⟨b, hb, hv1⟩ : ∃ b, ρ[i]? = some (b + 1) ∧ a.eval x = .pointer (some ⟨b, off, none⟩) := by
      cases hv1 : a.eval x <;> rw [hv1] at h1' <;> cases h1'
      exact ⟨_, ‹_›, rfl⟩
    exact .va d _ _ hod (hexec _ _ hv1) (p.rel.set hda (.of_A (.ptr _ _ _ hb))) hs
  · rename_i s off e1
    rw [e1] at h1
    obtain ⟨b, hb, hv1⟩ := h1
    exact .va d _ _ hod (hexec _ _ hv1) (p.rel.set hda (show RelT w G ρ lam _ _ (.lref s (off + fl.offset)) from ⟨b, hb, rfl⟩)) hs
  · rename_i cs off e1
    rw [e1] at h1
    have h1' := h1.dat
    cases hv1 : a.eval x <;> rw [hv1] at h1' <;> cases h1'
    rename_i b base vs hc hr
    exact .va d _ _ hod (hexec _ _ hv1) (p.rel.set hda (.of_A (.d _ _ (by rw [Nat.add_assoc]; exact .iptr _ _ _ _ _ hc hr)))) hs
  · exact hs.elim

end
end Go.Vm
end

section
/- The tail behind an append of many cells, in any order. Conditions: none. -/
set_option linter.unusedSimpArgs false
namespace Go.Vm

section
variable {P : Program} {gl : Nat → List D} {n0 nt : Nat} {a : Act} {w w' w0 : World} {G G' G0 : Gh} {ρ ρ' ρ0 : List Nat} {lam lam' : Nat → Option Nat} {st st' : St} {K : St → Prop} {o : Oper} {Q : Exit → Act → World → Prop}

theorem setCell_comm {b b2 o1 o2 : Nat} {v u : Value} (h : b ≠ b2) (w : World) : (w.setCell ⟨b, o1, none⟩ v).setCell ⟨b2, o2, none⟩ u = (w.setCell ⟨b2, o2, none⟩ u).setCell ⟨b, o1, none⟩ v := by
  simp only [World.setCell]
  congr 1
  apply Array.ext_getElem?
  intro j
  simp only [Array.getElem?_modify]
  by_cases h1 : b2 = j
  · subst h1; simp [h]
  · simp [h1]

theorem setCells_comm1 {b b2 o2 : Nat} {u : Value} (h : b ≠ b2) : ∀ {us : List Value} {o1 : Nat} {w : World}, (w.setCells b o1 us).setCell ⟨b2, o2, none⟩ u = (w.setCell ⟨b2, o2, none⟩ u).setCells b o1 us
  | [], _, _ => rfl
  | v :: us, o1, w => by
    simp only [World.setCells]
    rw [setCells_comm1 h, setCell_comm h]

theorem setCells_comm {b b2 : Nat} (h : b ≠ b2) {us : List Value} {o1 : Nat} : ∀ {vs : List Value} {o2 : Nat} {w : World}, (w.setCells b o1 us).setCells b2 o2 vs = (w.setCells b2 o2 vs).setCells b o1 us
  | [], _, _ => rfl
  | v :: vs, o2, w => by
    simp only [World.setCells]
    rw [setCells_comm1 h, setCells_comm h]

theorem setCells_other {b b2 : Nat} (h : b2 ≠ b) : ∀ {us : List Value} {o1 : Nat} {w : World}, (w.setCells b o1 us).heap[b2]? = w.heap[b2]?
  | [], _, _ => rfl
  | v :: us, o1, w => by
    simp only [World.setCells]
    rw [setCells_other h]
    simp only [World.setCell, Array.getElem?_modify]
    simp [Ne.symm h]

theorem post_run {an : Ann} {m : AMap} {ins : I} {b : Nat} (p : Pre n0 gl nt w G ρ lam a st) (hnb : NB G b) (h : InsOf P an m o ins) (hd : dstOk nt o = true)
    (hpo : (∃ t s f, o.op = .fieldAddr t (.tmp s) f) ∨ (∃ t s x, o.op = .store t (.tmp s) x)) (hs : step (AP P gl) gl ins st K) : PostRun P gl w G ρ lam a K o b := by
  rcases h with h | rfl
  · rcases hpo with ⟨t, s, f, hop⟩ | ⟨t, s, x, hop⟩
    · obtain ⟨d, hod⟩ : ∃ d, o.dst = some d := by
        cases hod : o.dst with
        | none => simp [compOp, hop, hod] at h
        | some d => exact ⟨d, rfl⟩
      simp only [compOp, hop, hod] at h
      have hdt : d < nt := by unfold dstOk at hd; rw [hod] at hd; simpa [Nat.blt_eq] using hd
      split at h
      · rename_i fs hu
        split at h
        · rename_i fl hf
          split at h
          · rename_i hz
            simp only [Option.map_eq_some_iff] at h
            obtain ⟨x', hx, rfl⟩ := h
            cases hz' : szOf P fl.type with
            | none => rw [hz'] at hz; simp at hz
            | some n =>
              rw [hz'] at hz
              exact post_fa p hod hdt hop hx hu hf hz' (by simpa using hz) hs
          · simp at h
        · simp at h
      · simp at h
    · have hod : o.dst = none := by
        cases hod : o.dst with
        | none => rfl
        | some d => simp [compOp, hop, hod] at h
      simp only [compOp, hop, hod, Option.bind_eq_bind, Option.bind_eq_some_iff] at h
      obtain ⟨n, hn, y, hy, z, hz, h⟩ := h
      split at h
      · simp only [Option.some.injEq] at h; subst h
        exact post_ls p hnb hod hop hy hz hn hs
      · simp only [Option.some.injEq] at h; subst h
        exact post_hs p hnb hod hop hy hz hn hs
  · exact hs.elim

theorem least {f : Nat → Bool} : ∀ (n : Nat), (∃ i, i < n ∧ f i = false) → ∃ i, i < n ∧ f i = false ∧ ∀ j, j < i → f j = true
  | 0, h => by obtain ⟨i, h, _⟩ := h; omega
  | n + 1, h => by
    by_cases h1 : ∃ i, i < n ∧ f i = false
    · obtain ⟨i, k1, k2⟩ := least n h1
      exact ⟨i, by omega, k2⟩
    · obtain ⟨i, k1, k2⟩ := h
      have hin : i = n := by
        rcases Nat.lt_or_ge i n with h | h
        · exact absurd ⟨i, h, k2⟩ h1
        · omega
      subst hin
      refine ⟨i, k1, k2, fun j hj => ?_⟩
      cases hf : f j with
      | true => rfl
      | false => exact absurd ⟨j, hj, hf⟩ h1

theorem any_ready {ops : Array Oper} {listed : Array Bool} (i : Nat) : i ∈ Region.ready .any ops listed ↔ (i < ops.size ∧ listed.getD i true = false) ∧ ∀ o, ops[i]? = some o → ∀ e ∈ o.after.toList, Region.binds .any e = true → listed.getD e.on false = true := by
  unfold Region.ready
  rw [List.mem_filter, List.mem_range]
  constructor
  · rintro ⟨h1, h2⟩
    simp only [Bool.and_eq_true, Bool.not_eq_true'] at h2
    refine ⟨⟨h1, h2.1⟩, fun o ho e he hb => ?_⟩
    have h3 := h2.2
    rw [ho] at h3
    simp only [Option.map_some, Option.getD_some, Array.all_eq_true_iff_forall_mem, Bool.or_eq_true, Bool.not_eq_true'] at h3
    rcases h3 e (by simpa using he) with h | h
    · rw [hb] at h; simp at h
    · exact h
  · rintro ⟨⟨h1, h2⟩, h3⟩
    refine ⟨h1, ?_⟩
    simp only [Bool.and_eq_true, Bool.not_eq_true']
    refine ⟨h2, ?_⟩
    rw [Array.getElem?_eq_getElem h1]
    simp only [Option.map_some, Option.getD_some, Array.all_eq_true_iff_forall_mem, Bool.or_eq_true, Bool.not_eq_true']
    intro e he
    cases hb : Region.binds .any e with
    | false => exact .inl rfl
    | true => exact .inr (h3 _ (Array.getElem?_eq_getElem h1) e (by simpa using he) hb)

/-- Something may always run. -/
theorem ready_some {ops : Array Oper} {listed : Array Bool} (hback : backEdges ops = true) (hsz : listed.size = ops.size) (h : ∃ i, i < ops.size ∧ listed.getD i true = false) : Region.ready .any ops listed ≠ [] := by
  obtain ⟨i, h1, h2, h3⟩ := least ops.size h
  have hi : i ∈ Region.ready .any ops listed := by
    refine (any_ready i).2 ⟨⟨h1, h2⟩, fun o ho e he hb => ?_⟩
    unfold backEdges at hback
    have h4 := List.all_eq_true.1 hback i (List.mem_range.2 h1)
    rw [ho] at h4
    simp only [List.all_eq_true, Bool.or_eq_true, Bool.not_eq_true'] at h4
    have h5 : e.on < i := by
      rcases h4 e he with h | h
      · rw [hb] at h; simp at h
      · simpa [Nat.blt_eq] using h
    have h6 := h3 e.on h5
    rw [Array.getD_eq_getD_getElem?, Array.getElem?_eq_getElem (show e.on < listed.size by omega)] at h6 ⊢
    exact h6
  intro hn
  rw [hn] at hi; simp at hi

theorem put_other {d t : Nat} {v : Value} (h : t ≠ d) : (a.put (some d) v).tmps.getD t undef = a.tmps.getD t undef := by
  simp only [Act.put]
  rw [Array.getD_eq_getD_getElem?, Array.getD_eq_getD_getElem?, Array.getElem?_setIfInBounds_ne (Ne.symm h)]

end
end Go.Vm
end

section
/- The tail behind an append of many cells: its law. Conditions: none. -/
set_option linter.unusedSimpArgs false
namespace Go.Vm

section
variable {P : Program} {gl : Nat → List D} {n0 nt : Nat} {a : Act} {w w' w0 : World} {G G' G0 : Gh} {ρ ρ' ρ0 : List Nat} {lam lam' : Nat → Option Nat} {st st' : St} {K : St → Prop} {o : Oper} {Q : Exit → Act → World → Prop}

theorem post_noalloc {an : Ann} {m : AMap} {ins : I} (h : InsOf P an m o ins)
    (hpo : (∃ t s f, o.op = .fieldAddr t (.tmp s) f) ∨ (∃ t s x, o.op = .store t (.tmp s) x)) : isAlloc ins = false := by
  rcases h with h | rfl
  · rcases hpo with ⟨t, s, f, hop⟩ | ⟨t, s, x, hop⟩
    · obtain ⟨d, hod⟩ : ∃ d, o.dst = some d := by
        cases hod : o.dst with
        | none => simp [compOp, hop, hod] at h
        | some d => exact ⟨d, rfl⟩
      simp only [compOp, hop, hod] at h
      split at h
      · split at h
        · split at h
          · simp only [Option.map_eq_some_iff] at h
            obtain ⟨x', hx, rfl⟩ := h
            rfl
          · simp at h
        · simp at h
      · simp at h
    · have hod : o.dst = none := by
        cases hod : o.dst with
        | none => rfl
        | some d => simp [compOp, hop, hod] at h
      simp only [compOp, hop, hod, Option.bind_eq_bind, Option.bind_eq_some_iff] at h
      obtain ⟨n, hn, y, hy, z, hz, h⟩ := h
      split at h
      · simp only [Option.some.injEq] at h; subst h; rfl
      · simp only [Option.some.injEq] at h; subst h; rfl
  · rfl

theorem eval_other {xo : Operand} {q : Nat} {v : Value} (h : ∀ q', xo = .tmp q' → q ≠ q') : (a.put (some q) v).eval xo = a.eval xo := eval_put (fun q' hq => Ne.symm (h q' hq))

theorem tail_run {ops : Array Oper} {ts : List T} {an : Ann} {k d e i0 b pos : Nat} {o2 o3 : Oper} {xo : Operand} {v1 v2 vi vx : Value} {us : List Value} {c1 : Array Value} {E : TypeId} {fz : Nat × Nat}
    (hback : backEdges ops = true) (ho2 : ops[k + 1]? = some o2) (hg2 : o2.guard = none) (hd2 : o2.dst = some e) (ho3 : ops[k + 2]? = some o3) (hg3 : o3.guard = none) (hd3 : o3.dst = none) (he : e < nt)
    (hx2 : ∀ (a' : Act) (w' : World), a'.tmps.getD d undef = v1 → a'.tmps.getD i0 undef = vi → (execOp a'.eval o2).run P w' = .ok (.value v2) w')
    (hx3 : ∀ (a' : Act) (w' : World), a'.tmps.getD e undef = v2 → a'.eval xo = vx → w'.heap[b]? = some (.cells c1 E fz) → (execOp a'.eval o3).run P w' = .ok .skip (w'.setCells b pos us))
    (hed : d ≠ e) (hei : i0 ≠ e) (hxe : ∀ q, xo = .tmp q → e ≠ q) (h12 : onPath ops (k + 1) ops.size (k + 2) = true)
    (hget : ∀ i, k + 3 ≤ i → i < ops.size → ∀ o, ops[i]? = some o → ∃ m' t, ts[i]? = some t ∧ InsOf P an m' o t.g.i ∧ t.g.g = none ∧ o.guard = none ∧ dstOk nt o = true ∧ t.g.i.dst = o.dst ∧
      ((∃ t s f, o.op = .fieldAddr t (.tmp s) f) ∨ (∃ t s x, o.op = .store t (.tmp s) x)) ∧
      (∀ q, o.dst = some q → d ≠ q ∧ i0 ≠ q ∧ e ≠ q ∧ ∀ q', xo = .tmp q' → q ≠ q') ∧ e ∉ t.g.rd)
    (hpair : ∀ i j, i < j → k + 3 ≤ i → j < ops.size → onPath ops i ops.size j = true ∨ IndT (ts.getD i ⟨0, default, {}⟩) (ts.getD j ⟨0, default, {}⟩))
    (hQ : ∀ a' w', After n0 gl nt w0 G0 ρ0 K a' w' → Q .normal a' w') : ∀ (r : Nat) {rem : List Nat} {ph : Nat} {listed : Array Bool} {w wv : World} {G : Gh} {a : Act} {st : St},
    rem.length + (2 - ph) = r → ph ≤ 2 → listed.size = ops.size → rem.Pairwise (· < ·) →
    (∀ i, i < ops.size → (listed.getD i true = false ↔ i ∈ rem ∨ (i = k + 1 ∧ ph < 1) ∨ (i = k + 2 ∧ ph < 2))) → (∀ i, i ∈ rem → k + 3 ≤ i ∧ i < ops.size) →
    (∀ (j : Nat) (o : Oper), ops[j]? = some o → listed.getD j true = true → ∀ e ∈ o.after.toList, Region.binds .any e = true → listed.getD e.on false = true) →
    Pre n0 gl nt wv G ρ lam a st → Far w0 G0 ρ0 wv G ρ → NB G b → (ph < 2 → wv = w.setCells b pos us ∧ w.heap[b]? = some (.cells c1 E fz)) → (ph = 2 → wv = w) →
    a.tmps.getD d undef = v1 → a.tmps.getD i0 undef = vi → a.eval xo = vx → (ph = 1 → a.tmps.getD e undef = v2) → st.tm e = .undef →
    Chn P gl (rem.map (fun i => ts.getD i ⟨0, default, {}⟩)) st K → wpAny P .any ops Q r listed a w := by
  have hk1 : k + 1 < ops.size := (Array.getElem?_eq_some_iff.1 ho2).1
  have hk2 : k + 2 < ops.size := (Array.getElem?_eq_some_iff.1 ho3).1
  intro r
  induction r with
  | zero =>
    intro rem ph listed w wv G a st hr hph hsz hsort hmem hge hcl p f hnb hw1 hw2 hv1 hvi hvx hve hue hs
    have : rem = [] := List.eq_nil_of_length_eq_zero (by omega)
    subst this
    have hph2 : ph = 2 := by omega
    have hwv := hw2 hph2
    subst hwv
    refine ⟨?_, hQ _ _ (f.after (p.after hs))⟩
    unfold Region.ready
    rw [List.filter_eq_nil_iff]
    intro i hi
    have hi := List.mem_range.1 hi
    cases hl : listed.getD i true with
    | true => simp
    | false =>
      rcases (hmem i hi).1 hl with h | ⟨_, h⟩ | ⟨_, h⟩
      · simp at h
      · omega
      · omega
  | succ r ih =>
    intro rem ph listed w wv G a st hr hph hsz hsort hmem hge hcl p f hnb hw1 hw2 hv1 hvi hvx hve hue hs
    have hset : ∀ i, i < ops.size → ∀ j d, (listed.setIfInBounds i true).getD j d = if j = i then true else listed.getD j d := by
      intro i hi j d
      rw [Array.getD_eq_getD_getElem?, Array.getD_eq_getD_getElem?, Array.getElem?_setIfInBounds]
      by_cases h : i = j
      · subst h; simp [show i < listed.size by omega]
      · have h' : j ≠ i := fun e => h e.symm
        simp [h, h']
    have hcl2 : ∀ i, i < ops.size → (∀ o, ops[i]? = some o → ∀ e ∈ o.after.toList, Region.binds .any e = true → listed.getD e.on false = true) → ∀ (j : Nat) (o : Oper), ops[j]? = some o → (listed.setIfInBounds i true).getD j true = true → ∀ e ∈ o.after.toList, Region.binds .any e = true → (listed.setIfInBounds i true).getD e.on false = true := by
      intro i hi hia j o hoj hlj e he hb
      rw [hset i hi] at hlj ⊢
      by_cases hj : j = i
      · subst hj
        rw [hia o hoj e he hb]; simp
      · simp only [hj, if_false] at hlj
        rw [hcl j o hoj hlj e he hb]; simp
    refine ⟨fun hnil => ?_, fun i hi => ?_⟩
    · refine absurd hnil (ready_some hback hsz ?_)
      by_cases h2 : ph < 2
      · exact ⟨k + 2, hk2, (hmem _ hk2).2 (.inr (.inr ⟨rfl, h2⟩))⟩
      · cases rem with
        | nil => simp at hr; omega
        | cons j rem =>
          have := hge j (by simp)
          exact ⟨j, this.2, (hmem j this.2).2 (.inl (by simp))⟩
    · obtain ⟨⟨hlt, hil⟩, hia⟩ := (any_ready i).1 hi
      have ho : ops[i]? = some ops[i] := Array.getElem?_eq_getElem hlt
      rcases (hmem i hlt).1 hil with him | ⟨rfl, h1⟩ | ⟨rfl, h2⟩
      · -- one of the rest
        obtain ⟨l1, l2, rfl⟩ := List.append_of_mem him
        have hgi := hge i him
        obtain ⟨m', t, hg, c1', c2, c3, c4, c5, c6, c7, c8⟩ := hget i hgi.1 hlt _ ho
        have hgd : ts.getD i ⟨0, default, {}⟩ = t := by rw [List.getD_eq_getElem?_getD, hg]; rfl
        rw [List.map_append, List.map_cons, hgd] at hs
        have hfront := chn_front (l1 := l1.map fun i => ts.getD i ⟨0, default, {}⟩) (fun x hx => by
          simp only [List.mem_map] at hx
          obtain ⟨j, hj, rfl⟩ := hx
          have hjm : j ∈ l1 ++ i :: l2 := List.mem_append_left _ hj
          have hjg := hge j hjm
          have hji : j < i := by
            rw [List.pairwise_append] at hsort
            exact hsort.2.2 j hj i (by simp)
          rcases hpair j i hji hjg.1 hlt with hp | hp
          · exfalso
            have := onPath_listed hcl ops.size i _ ho (hia _ ho) hp
            have h2 := (hmem j hjg.2).2 (.inl hjm)
            rw [Array.getD_eq_getD_getElem?, Array.getElem?_eq_getElem (show j < listed.size by omega)] at this h2
            simp only [Option.getD_some] at this h2
            rw [this] at h2; simp at h2
          · rwa [hgd] at hp) hs
        obtain ⟨st1, hout, hrest⟩ := hfront
        rw [← List.map_append] at hrest
        have hstep : step (AP P gl) gl t.g.i st (fun s => s = st1) := by
          have := hout.mono (K := fun s => s = st1) rfl
          unfold stepR at this
          rw [post_noalloc c1' c6] at this
          simp only [cond_false] at this
          unfold step1 at this
          rw [c2] at this
          exact this
        have hue1 : st1.tm e = .undef := by
          rw [hout.tm e (fun h => ?_) (fun h => c8 (rd_g (kl_sub (hout.k e h))))]
          · exact hue
          · rcases hw_sub h with h | h
            · rw [c5] at h; exact (c7 e h).2.2.1 rfl
            · exact c8 (rd_g h)
        have hmem2 : ∀ j, j ∈ l1 ++ l2 → j ∈ l1 ++ i :: l2 ∧ j ≠ i := by
          intro j hj
          rw [List.pairwise_append] at hsort
          rcases List.mem_append.1 hj with h | h
          · exact ⟨List.mem_append_left _ h, by have := hsort.2.2 j h i (by simp); omega⟩
          · exact ⟨List.mem_append_right _ (by simp [h]), by have := (List.pairwise_cons.1 hsort.2.1).1 j h; omega⟩
        have hsort2 : (l1 ++ l2).Pairwise (· < ·) := by
          rw [List.pairwise_append] at hsort ⊢
          exact ⟨hsort.1, (List.pairwise_cons.1 hsort.2.1).2, fun x hx y hy => hsort.2.2 x hx y (by simp [hy])⟩
        have hlen2 : (l1 ++ l2).length + (2 - ph) = r := by simp only [List.length_append, List.length_cons] at hr ⊢; omega
        have hmem3 : ∀ j, j < ops.size → ((listed.setIfInBounds i true).getD j true = false ↔ j ∈ l1 ++ l2 ∨ (j = k + 1 ∧ ph < 1) ∨ (j = k + 2 ∧ ph < 2)) := by
          intro j hj
          rw [hset i hlt]
          by_cases hji : j = i
          · subst hji
            simp only [if_true, Bool.true_eq_false, false_iff, not_or]
            exact ⟨fun h => (hmem2 j h).2 rfl, fun h => by omega, fun h => by omega⟩
          · simp only [hji, if_false]
            rw [hmem j hj]
            simp [hji]
        cases post_run p hnb c1' c4 c6 hstep with
        | st b2 off vs c E2 fz2 G' st' q1 q2 q3 q4 q5 q6 q7 q8 q9 =>
          subst q9
          have hwb : w.heap[b2]? = some (.cells c E2 fz2) := by
            rcases Nat.lt_or_ge ph 2 with h | h
            · rw [← q3, (hw1 h).1, setCells_other q1]
            · rw [← hw2 (by omega)]; exact q3
          refine wpOp_skip ho c3 (q5 w hwb) ?_
          rw [q2]
          refine ih (rem := l1 ++ l2) (ph := ph) (wv := wv.setCells b2 off vs) hlen2 hph (by simp [hsz]) hsort2 hmem3 (fun j hj => hge j (hmem2 j hj).1) (hcl2 i hlt hia) ⟨q6, p.df.good q7, p.sz⟩ ⟨f.good.trans q7, f.pre⟩ q8 (fun h => ?_) (fun h => by rw [hw2 h]) hv1 hvi hvx hve hue1 hrest
          obtain ⟨h1, h2⟩ := hw1 h
          exact ⟨by rw [h1, setCells_comm (Ne.symm q1)], by rw [setCells_other (Ne.symm q1)]; exact h2⟩
        | va q v st' q1 q2 q3 q4 =>
          subst q4
          obtain ⟨b1, b2', b3, b4⟩ := c7 q q1
          refine wpOp_run ho c3 (q2 w) ?_
          rw [q1]
          refine ih (rem := l1 ++ l2) (ph := ph) (wv := wv) hlen2 hph (by simp [hsz]) hsort2 hmem3 (fun j hj => hge j (hmem2 j hj).1) (hcl2 i hlt hia) ⟨q3, p.df, by rw [put_size]; exact p.sz⟩ f hnb hw1 hw2 (by rw [put_other b1]; exact hv1) (by rw [put_other b2']; exact hvi) (by rw [eval_other b4]; exact hvx) (fun h => by rw [put_other b3]; exact hve h) hue1 hrest
      · -- the address
        have hph0 : ph = 0 := by omega
        subst hph0
        refine wpOp_run ho2 hg2 (hx2 a w hv1 hvi) ?_
        rw [hd2]
        have hea : e < a.tmps.size := Nat.lt_of_lt_of_le he p.sz
        have hst : st.set e .undef = st := by
          obtain ⟨tm, bx, s⟩ := st
          simp only [St.set, St.mk.injEq, and_true]
          funext t
          simp only [upd_eq]
          by_cases h : t = e
          · subst h; simp only [if_true]; exact hue.symm
          · simp [h]
        have hrel : RelS gl wv G ρ lam (a.tmps.setIfInBounds e v2) st := by
          have := p.rel.set (v := v2) (x := .undef) hea (.of_A (.undef _))
          rwa [hst] at this
        refine ih (rem := rem) (ph := 1) (wv := wv) (by omega) (by omega) (by simp [hsz]) hsort (fun j hj => ?_) hge (hcl2 _ hk1 hia) ⟨hrel, p.df, by rw [put_size]; exact p.sz⟩ f hnb (fun _ => hw1 (by omega)) (fun h => by omega) (by rw [put_other hed]; exact hv1) (by rw [put_other hei]; exact hvi) (by rw [eval_other hxe]; exact hvx) (fun _ => by rw [put_get hea, if_pos rfl]) hue hs
        rw [hset _ hk1]
        by_cases hjk : j = k + 1
        · subst hjk
          simp only [if_true, Bool.true_eq_false, false_iff, not_or]
          exact ⟨fun h => by have := hge _ h; omega, fun h => by omega, fun h => by omega⟩
        · simp only [hjk, if_false]
          rw [hmem j hj]
          simp [hjk]
      · -- the store
        have hph1 : ph = 1 := by
          rcases Nat.lt_or_ge ph 1 with h | h
          · exfalso
            have := onPath_listed hcl ops.size _ _ ho (hia _ ho) h12
            have h3 := (hmem _ hk1).2 (.inr (.inl ⟨rfl, h⟩))
            rw [Array.getD_eq_getD_getElem?, Array.getElem?_eq_getElem (show k + 1 < listed.size by omega)] at this h3
            simp only [Option.getD_some] at this h3
            rw [this] at h3; simp at h3
          · omega
        subst hph1
        obtain ⟨e1, e2⟩ := hw1 (by omega)
        refine wpOp_skip ho3 hg3 (hx3 a w (hve rfl) hvx e2) ?_
        rw [hd3, ← e1]
        refine ih (rem := rem) (ph := 2) (wv := wv) (by omega) (by omega) (by simp [hsz]) hsort (fun j hj => ?_) hge (hcl2 _ hk2 hia) p f hnb (fun h => by omega) (fun _ => rfl) hv1 hvi hvx (fun h => by omega) hue hs
        rw [hset _ hk2]
        by_cases hjk : j = k + 2
        · subst hjk
          simp only [if_true, Bool.true_eq_false, false_iff, not_or]
          exact ⟨fun h => by have := hge _ h; omega, fun h => by omega, fun h => by omega⟩
        · simp only [hjk, if_false]
          rw [hmem j hj]
          simp [hjk]

end
end Go.Vm
end

section
/- The law of regions that draw their order. Conditions: none. -/
set_option linter.unusedSimpArgs false
namespace Go.Vm

section
variable {P : Program} {gl : Nat → List D} {n0 nt : Nat} {a : Act} {w w' w0 : World} {G G' G0 : Gh} {ρ ρ' ρ0 : List Nat} {lam lam' : Nat → Option Nat} {st st' : St} {K : St → Prop} {o : Oper} {Q : Exit → Act → World → Prop}

theorem no_apx {an : Ann} {m : AMap} {i : I} (h : compOp P an m o = some i) : isApI i = false := by
  cases hi : isApI i with
  | false => rfl
  | true =>
    exfalso
    unfold compOp at h
    split at h
    all_goals
      revert hi
      (repeat' (first
        | (simp only [Option.bind_eq_bind, Option.bind_eq_some_iff, Option.map_eq_some_iff, Option.some.injEq, reduceCtorEq] at h)
        | (obtain ⟨_, _, h⟩ := h)
        | (subst h; simp [isApI]; done)
        | (exact h.elim)
        | (unfold bldI at h)
        | (split at h)))
    all_goals (try (intro hi; simp [isApI] at hi; done))
    all_goals (try (intro hi; split at hi <;> simp [isApI] at hi; done))

theorem compOps_tail {an : Ann} {all : Array Oper} : ∀ {k : Nat} {l : List Oper} {m : AMap} {is : List GI}, compOps P an nt all m l = some is → (∀ j, j < k → ∀ g, is[j]? = some g → isApI g.i = false) → (∀ g, is[k]? = some g → isApI g.i = true) → k < is.length →
    ∃ o1 o2 o3 d ins e m' is', l[k]? = some o1 ∧ l[k + 1]? = some o2 ∧ l[k + 2]? = some o3 ∧ isApx P an o1 o2 o3 = some (d, ins, e) ∧ d < nt ∧ e < nt ∧ is.drop k = ⟨none, ins⟩ :: ⟨none, .nop (some e)⟩ :: ⟨none, .nop none⟩ :: is' ∧ compOps P an nt all m' (l.drop (k + 3)) = some is'
  | k, [], m, is, h, _, _, hl => by
    simp only [compOps, Option.some.injEq] at h
    subst h
    simp at hl
  | k, o :: l, m, is, h, hn, hk, hl => by
    rcases compOps_cons h with ⟨g, is', h1, h3, rfl⟩ | ⟨o2, o3, l', d, ins, e, is', rfl, hx, hd, he, h3, rfl⟩
    · cases k with
      | zero =>
        exfalso
        have := hk g rfl
        obtain ⟨c1, _⟩ := compOne_spec h1
        rcases c1 with c1 | c1
        · rw [no_apx c1] at this; simp at this
        · rw [c1] at this; simp [isApI] at this
      | succ k =>
        obtain ⟨o1, o2, o3, d, ins, e, m', is2, q1, q2, q3, q4, q5, q6, q7, q8⟩ := compOps_tail (k := k) h3 (fun j hj g' hg => hn (j + 1) (by omega) g' (by simpa using hg)) (fun g' hg => hk g' (by simpa using hg)) (by simpa using hl)
        exact ⟨o1, o2, o3, d, ins, e, m', is2, by simpa using q1, by simpa using q2, by simpa using q3, q4, q5, q6, by simpa using q7, by simpa using q8⟩
    · cases k with
      | zero => exact ⟨o, o2, o3, d, ins, e, m, is', rfl, rfl, rfl, hx, hd, he, rfl, by simpa using h3⟩
      | succ k =>
        exfalso
        obtain ⟨s, z, i', y, sz, bnd, rfl, hxs⟩ := isApx_spec hx
        have := hn 0 (by omega) _ rfl
        simp [isApI] at this

theorem compOps_post {an : Ann} {all : Array Oper} : ∀ {l : List Oper} {m : AMap} {is : List GI}, compOps P an nt all m l = some is → (∀ o, o ∈ l → (∃ t s f, o.op = .fieldAddr t (.tmp s) f) ∨ (∃ t s x, o.op = .store t (.tmp s) x)) → ∀ (i : Nat) (o : Oper), l[i]? = some o →
    ∃ m' g, is[i]? = some g ∧ InsOf P an m' o g.i ∧ compGuard all o = some g.g ∧ dstOk nt o = true ∧ g.i.dst = o.dst
  | [], m, is, h, _, i, o, ho => by simp at ho
  | o :: l, m, is, h, hp, i, o', ho => by
    rcases compOps_cons h with ⟨g, is', h1, h3, rfl⟩ | ⟨o2, o3, l', d, ins, e, is', rfl, hx, hd, he, h3, rfl⟩
    · cases i with
      | zero =>
        simp only [List.getElem?_cons_zero, Option.some.injEq] at ho
        subst ho
        obtain ⟨c1, c2, c3, c4⟩ := compOne_spec h1
        exact ⟨m, g, rfl, c1, c2, c3, c4⟩
      | succ i =>
        obtain ⟨m', g', k1, k2⟩ := compOps_post h3 (fun o ho => hp o (by simp [ho])) i o' (by simpa using ho)
        exact ⟨m', g', by simpa using k1, k2⟩
    · exfalso
      obtain ⟨s, z, i', y, sz, bnd, rfl, hxs⟩ := isApx_spec hx
      obtain ⟨t, u, e0, bt, zz, x, t3, q1, _⟩ := hxs.ex
      rcases hp o (by simp) with ⟨_, _, _, h⟩ | ⟨_, _, _, h⟩ <;> rw [q1] at h <;> simp at h

end
end Go.Vm
end

section
/- The law of regions that draw their order: the tail, joined. Conditions: none. -/
set_option linter.unusedSimpArgs false
namespace Go.Vm

section
variable {P : Program} {gl : Nat → List D} {n0 nt : Nat} {a : Act} {w w' w0 : World} {G G' G0 : Gh} {ρ ρ' ρ0 : List Nat} {lam lam' : Nat → Option Nat} {st st' : St} {K : St → Prop} {o : Oper} {Q : Exit → Act → World → Prop}

theorem set_getD_self {tm : Array Value} {e : Nat} : tm.setIfInBounds e (tm.getD e undef) = tm := by
  apply Array.ext_getElem?
  intro j
  rw [Array.getD_eq_getD_getElem?, Array.getElem?_setIfInBounds]
  by_cases hj : e = j
  · subst hj
    rw [if_pos rfl]
    by_cases h : e < tm.size
    · rw [if_pos h, Array.getElem?_eq_getElem h]; rfl
    · rw [if_neg h, Array.getElem?_eq_none (by omega)]
  · rw [if_neg hj]

theorem tailLaw (P : Program) (gl : Nat → List D) : TailLaw P gl := by
  intro n0 nt an m ops is ts k listed w w0 G G0 ρ ρ0 lam a st K Q hc hts htk htok hback hsz hli p f hs hpair hQ
  have hil := compOps_len ops.toList.length (Nat.le_refl _) hc
  have htl : ts.length = ops.size := by
    have := congrArg List.length hts
    simp only [List.length_map] at this
    rw [this, hil]; simp
  have hkf := List.findIdx?_eq_some_iff_getElem.1 (show is.findIdx? (fun g => isApI g.i) = some k from htk)
  obtain ⟨hkl, hka, hkn⟩ := hkf
  have hks : k < ops.size := by rw [hil] at hkl; simpa using hkl
  obtain ⟨o1, o2, o3, d, ins, e, m', is', l1, l2, l3, hx, hd, he, hdrop, hc'⟩ := compOps_tail (k := k) hc (fun j hj g hg => by
      have := hkn j hj
      rw [List.getElem?_eq_getElem (by omega)] at hg
      simp only [Option.some.injEq] at hg
      rw [hg] at this
      simpa using this) (fun g hg => by
      rw [List.getElem?_eq_getElem hkl] at hg
      simp only [Option.some.injEq] at hg
      rw [← hg]; exact hka) hkl
  obtain ⟨s, z, i0, y, sz, bnd, rfl, hxs⟩ := isApx_spec hx
  have ho1 : ops[k]? = some o1 := by simpa using l1
  have ho2 : ops[k + 1]? = some o2 := by simpa using l2
  have ho3 : ops[k + 2]? = some o3 := by simpa using l3
  have hk2 : k + 2 < ops.size := (Array.getElem?_eq_some_iff.1 ho3).1
  have hisd : ∀ j, is[k + j]? = (is.drop k)[j]? := fun j => by rw [List.getElem?_drop]
  have hi0 : is[k]? = some ⟨none, .apx d s z i0 y sz bnd⟩ := by have := hisd 0; rw [hdrop] at this; simpa using this
  have hi1 : is[k + 1]? = some ⟨none, .nop (some e)⟩ := by have := hisd 1; rw [hdrop] at this; simpa using this
  have hi2 : is[k + 2]? = some ⟨none, .nop none⟩ := by have := hisd 2; rw [hdrop] at this; simpa using this
  -- what the tail is told of
  unfold tailOk at htok
  rw [hi0] at htok
  simp only at htok
  rw [hi1] at htok
  simp only [Bool.and_eq_true, List.all_eq_true, List.mem_range, Bool.or_eq_true] at htok
  obtain ⟨⟨⟨t1, t2⟩, t3⟩, t4⟩ := htok
  have hpost : ∀ j, k + 3 ≤ j → ∀ o g, ops[j]? = some o → is[j]? = some g → postOk e (e :: d :: s :: z :: i0 :: y.slots) o g = true := by
    intro j hj o g ho hg
    rcases t4 j (Array.getElem?_eq_some_iff.1 ho).1 with h | h
    · rw [Nat.blt_eq] at h; omega
    · rw [ho, hg] at h; exact h
  have hisg : ∀ i, i < ops.size → is[i]? = some (ts.getD i ⟨0, default, {}⟩).g := by
    intro i hi
    rw [← hts, List.getElem?_map, getT (by omega)]; rfl
  have hform : ∀ o g, postOk e (e :: d :: s :: z :: i0 :: y.slots) o g = true → o.guard = none ∧ e ∉ g.rd ∧ (∀ q, o.dst = some q → q ∉ e :: d :: s :: z :: i0 :: y.slots) ∧ ((∃ t s f, o.op = .fieldAddr t (.tmp s) f) ∨ (∃ t s x, o.op = .store t (.tmp s) x)) := by
    intro o g h
    unfold postOk at h
    simp only [Bool.and_eq_true, Option.isNone_iff_eq_none, Bool.not_eq_true'] at h
    obtain ⟨⟨⟨h1, h2⟩, h3⟩, h4⟩ := h
    have nin : ∀ {i : Nat} {l : List Nat}, elemB i l = false → i ∉ l := fun h hm => by rw [elemB_iff.2 hm] at h; simp at h
    refine ⟨h1, nin h2, fun q hq => ?_, ?_⟩
    · rw [hq] at h3
      simp only [Bool.not_eq_true'] at h3
      exact nin h3
    · split at h4
      · rename_i t s f hop; exact .inl ⟨t, s, f, hop⟩
      · rename_i t s x hop; exact .inr ⟨t, s, x, hop⟩
      · simp at h4
  have hk1 : ops.size - k = (ops.size - (k + 1)) + 1 := by omega
  rw [hk1]
  have hunl : ∀ i, i < ops.size → (listed.getD i true = false ↔ k ≤ i) := by
    intro i hi
    have := hli i hi
    cases hl : listed.getD i true with
    | true => simp only [Bool.true_eq_false, false_iff]; have := this.1 hl; omega
    | false =>
      simp only [true_iff]
      rcases Nat.lt_or_ge i k with h | h
      · rw [this.2 h] at hl; simp at hl
      · exact h
  have hcl : ∀ (j : Nat) (o : Oper), ops[j]? = some o → listed.getD j true = true → ∀ e ∈ o.after.toList, Region.binds .any e = true → listed.getD e.on false = true := by
    intro j o hoj hl q hq hb
    have hj : j < ops.size := (Array.getElem?_eq_some_iff.1 hoj).1
    have hjk := (hli j hj).1 hl
    unfold backEdges at hback
    have h4 := List.all_eq_true.1 hback j (List.mem_range.2 hj)
    rw [hoj] at h4
    simp only [List.all_eq_true, Bool.or_eq_true, Bool.not_eq_true'] at h4
    have h5 : q.on < j := by
      rcases h4 q hq with h | h
      · rw [hb] at h; simp at h
      · simpa [Nat.blt_eq] using h
    have h6 := (hli q.on (by omega)).2 (by omega)
    rw [Array.getD_eq_getD_getElem?, Array.getElem?_eq_getElem (show q.on < listed.size by omega)] at h6 ⊢
    exact h6
  refine ⟨fun hnil => absurd hnil (ready_some hback hsz ⟨k, hks, (hunl k hks).2 (Nat.le_refl _)⟩), fun i hi => ?_⟩
  obtain ⟨⟨hlt, hil'⟩, hia⟩ := (any_ready i).1 hi
  have hik : i = k := by
    have h1 := (hunl i hlt).1 hil'
    rcases Nat.lt_or_ge k i with h | h
    · exfalso
      rcases t2 i hlt with h2 | h2
      · have := Nat.le_of_ble_eq_true h2; omega
      · have := onPath_listed hcl ops.size i _ (Array.getElem?_eq_getElem hlt) (hia _ (Array.getElem?_eq_getElem hlt)) h2
        have h3 := (hunl k hks).2 (Nat.le_refl _)
        rw [Array.getD_eq_getD_getElem?, Array.getElem?_eq_getElem (show k < listed.size by omega)] at this h3
        simp only [Option.getD_some] at this h3
        rw [this] at h3; simp at h3
    · omega
  subst hik
  -- the chain
  have hdr : ts.drop i = ts.getD i ⟨0, default, {}⟩ :: ts.getD (i + 1) ⟨0, default, {}⟩ :: ts.getD (i + 2) ⟨0, default, {}⟩ :: ts.drop (i + 3) := by
    have step : ∀ j, j < ops.size → ts.drop j = ts.getD j ⟨0, default, {}⟩ :: ts.drop (j + 1) := fun j hj => by
      rw [List.drop_eq_getElem_cons (by omega), List.getD_eq_getElem?_getD, List.getElem?_eq_getElem (by omega)]; rfl
    rw [step i hks, step (i + 1) (by omega), step (i + 2) hk2]
  rw [hdr] at hs
  obtain ⟨s1, u1, s2, u2, s3, u3, hrest⟩ := hs
  have g0 : (ts.getD i ⟨0, default, {}⟩).g = ⟨none, .apx d s z i0 y sz bnd⟩ := by have := hisg i hks; rw [hi0] at this; simpa using this.symm
  have g1 : (ts.getD (i + 1) ⟨0, default, {}⟩).g = ⟨none, .nop (some e)⟩ := by have := hisg (i + 1) (by omega); rw [hi1] at this; simpa using this.symm
  have g2 : (ts.getD (i + 2) ⟨0, default, {}⟩).g = ⟨none, .nop none⟩ := by have := hisg (i + 2) hk2; rw [hi2] at this; simpa using this.symm
  have r1 : step (AP P gl) gl (.apx d s z i0 y sz bnd) st (fun q => q = s1) := by have := u1.mono (K := fun q => q = s1) rfl; rw [g0] at this; exact this
  have r2 : s1.setO (some e) .undef = s2 := by have := u2.mono (K := fun q => q = s2) rfl; rw [g1] at this; exact this
  have r3 : s2.setO none .undef = s3 := by have := u3.mono (K := fun q => q = s3) rfl; rw [g2] at this; exact this
  obtain ⟨v1, v2, w1, b, pos, us, xo, x2, G', n, c1, E, fz, x0, x1, y2, y3, y4, y5, y6, y7, y8, y9, y10⟩ := apx_runs p hxs r1
  obtain ⟨n4, n1, n2, n3⟩ := apx_opd hxs x0
  obtain ⟨t, u, e0, bt, zz, x, t3', q1, q2, q3, q4, q5, q6, q7, q8, q9, _, _, _, _, _, hyo, _⟩ := hxs.ex
  have hxo : xo = x := by
    rw [q7] at x0
    have : x = xo := by simpa [Op.operands] using x0
    exact this.symm
  have hda : d < a.tmps.size := Nat.lt_of_lt_of_le hd p.sz
  have hea : e < a.tmps.size := Nat.lt_of_lt_of_le he p.sz
  have hysl : ∀ q', xo = .tmp q' → q' ∈ y.slots := by
    intro q' hq
    rw [hxo] at hq
    subst hq
    simp only [opd, Option.some.injEq] at hyo
    rw [← hyo]; simp [O.slots]
  refine wpOp_run ho1 q3 x1 ?_
  rw [q2]
  have h1 := y7.set hda y9
  have hrel : RelS gl (w1.setCells b pos us) G' ρ lam (a.put (some d) v1).tmps s3 := by
    have h2 := h1.set (d := e) (v := (a.tmps.setIfInBounds d v1).getD e undef) (x := .undef) (by simpa using hea) (.of_A (.undef _))
    rw [set_getD_self] at h2
    rw [← r3, ← r2, ← y10]
    exact h2
  have hrem : (List.range' (i + 3) (ops.size - (i + 3))).map (fun i => ts.getD i ⟨0, default, {}⟩) = ts.drop (i + 3) := by
    apply List.ext_getElem?
    intro j
    rw [List.getElem?_map, List.getElem?_drop]
    by_cases hj : j < ops.size - (i + 3)
    · rw [List.getElem?_range' hj, Option.map_some, Nat.one_mul, getT (by omega)]
    · rw [List.getElem?_eq_none (by simpa using hj), List.getElem?_eq_none (by omega)]; rfl
  have hset : ∀ j d, (listed.setIfInBounds i true).getD j d = if j = i then true else listed.getD j d := by
    intro j d
    rw [Array.getD_eq_getD_getElem?, Array.getD_eq_getD_getElem?, Array.getElem?_setIfInBounds]
    by_cases h : i = j
    · subst h; simp [show i < listed.size by omega]
    · have h' : j ≠ i := fun e => h e.symm
      simp [h, h']
  refine tail_run (ts := ts) (an := an) (k := i) (d := d) (e := e) (i0 := i0) (b := b) (pos := pos) (xo := xo) (v1 := v1) (v2 := v2) (vi := a.tmps.getD i0 undef) (vx := a.eval xo) (us := us) (c1 := c1) (E := E) (fz := fz) hback ho2 q6 q5 ho3 q9 q8 he y2 y3 (Ne.symm n2) (Ne.symm n3)
    (fun q hq => Ne.symm (n4 q hq).1) t3 ?_ (fun j j' h1 h2 h3 => hpair j j' h1 h2 h3) hQ (ops.size - (i + 1)) (rem := List.range' (i + 3) (ops.size - (i + 3))) (ph := 0) (wv := w1.setCells b pos us)
    (by simp only [List.length_range']; omega) (by omega) (by simp [hsz]) List.pairwise_lt_range' (fun j hj => ?_) (fun j hj => ?_) ?_ ⟨hrel, p.df.good y8, by rw [put_size]; exact p.sz⟩ ⟨f.good.trans y8, f.pre⟩ ⟨_, n, y6, by simp, by simp⟩ (fun _ => ⟨rfl, y4⟩) (fun h => by omega)
    (by rw [put_get hda, if_pos rfl]) (put_other (Ne.symm n1)) (eval_put fun q hq => (n4 q hq).2) (fun h => by omega) ?_ (by rw [hrem]; exact hrest)
  · intro j hj hj2 o ho
    have hp := hform o _ (hpost j hj o _ ho (hisg j hj2))
    obtain ⟨m2, g, w2, w3, w4, w5, w6⟩ := compOps_post hc' (fun o' ho' => by
      obtain ⟨q, hq⟩ := List.getElem?_of_mem ho'
      rw [List.getElem?_drop] at hq
      have hq' : ops[i + 3 + q]? = some o' := by simpa using hq
      have hq2 := (Array.getElem?_eq_some_iff.1 hq').1
      exact (hform o' _ (hpost _ (by omega) o' _ hq' (hisg _ hq2))).2.2.2) (j - (i + 3)) o (by rw [List.getElem?_drop, show i + 3 + (j - (i + 3)) = j by omega]; simpa using ho)
    have hgj : is'[j - (i + 3)]? = is[j]? := by
      have := hisd (j - i)
      rw [show i + (j - i) = j by omega, hdrop, show j - i = (j - (i + 3)) + 1 + 1 + 1 by omega] at this
      simpa using this.symm
    rw [hgj, hisg j hj2] at w2
    simp only [Option.some.injEq] at w2
    subst w2
    refine ⟨m2, _, getT (by omega), w3, ?_, hp.1, w5, w6, hp.2.2.2, fun q hq => ?_, hp.2.1⟩
    · unfold compGuard at w4
      rw [hp.1] at w4
      simpa using w4.symm
    · have hn := hp.2.2.1 q hq
      simp only [List.mem_cons, not_or] at hn
      exact ⟨Ne.symm hn.2.1, Ne.symm hn.2.2.2.2.1, Ne.symm hn.1, fun q' hq' h => hn.2.2.2.2.2 (by rw [h]; exact hysl q' hq')⟩
  · rw [hset]
    by_cases hji : j = i
    · subst hji
      simp only [if_true, Bool.true_eq_false, false_iff, not_or, List.mem_range'_1]
      exact ⟨fun h => by omega, fun h => by omega, fun h => by omega⟩
    · simp only [hji, if_false, hunl j hj, List.mem_range'_1]
      omega
  · rw [List.mem_range'_1] at hj; omega
  · intro j o hoj hlj q hq hb
    rw [hset] at hlj ⊢
    by_cases hj : j = i
    · subst hj
      rw [hia o hoj q hq hb]; simp
    · simp only [hj, if_false] at hlj
      rw [hcl j o hoj hlj q hq hb]; simp
  · rw [← r3, ← r2]
    simp [St.setO, St.set, upd_self]

theorem anyLaw' (P : Program) (gl : Nat → List D) : AnyLaw P gl := anyLaw P gl (tailLaw P gl)

end
end Go.Vm
end

section
/- Ranges over functions: a round's code. Conditions: none. -/
namespace Go.Vm

section
variable {P : Program} {gl : Nat → List D} {n0 nt : Nat} {a : Act} {w w' w0 : World} {G G' G0 : Gh} {ρ ρ' ρ0 : List Nat} {lam lam' : Nat → Option Nat} {st st' : St} {K : St → Prop} {o : Oper} {Q : Exit → Act → World → Prop}

theorem compOp_noDefer {an : Ann} {m : AMap} {i : I} (h : compOp P an m o = some i) : ∀ c, o.op ≠ .defer c := by
  intro c he
  unfold compOp at h
  rw [he] at h
  simp at h

/-- An operation of a round. -/
theorem oper_in {l n : Nat} {next : Act → World → Prop} (hd : ∀ c, o.op ≠ .defer c) (h : o.wp P a w next Q) : o.wpIn (Fence.wide.inRound l) n P a w next Q := by
  refine ⟨fun _ _ => trivial, ?_⟩
  rw [Oper.semAt_eq _ _ _ hd]
  unfold Oper.wp at h
  generalize (execOp a.eval o).run P w = r at h
  cases r with
  | ok nx w' =>
    cases nx with
    | value v => exact h
    | skip => exact h
    | defer d => exact h
    | enter f args => exact ⟨fun h => by simp [Fence.wide, Fence.inRound] at h, CallsIn.inRound l (callsIn_wide.2 h)⟩
    | row r args =>
      refine ⟨fun h => by simp [Fence.wide, Fence.inRound] at h, ?_⟩
      intro c cs _
      obtain ⟨v, w2, h1, h2⟩ := h c cs
      exact ⟨v, w2, h1, stepsIn_wide.2 h2⟩
    | _ => exact h.elim
  | halt e w' => cases e <;> first | exact h | exact h.elim

/-- One unguarded operation of a round. -/
theorem stepIn {l0 n k : Nat} {ops : Array Oper} {rest : List Nat} (ho : ops[k]? = some o) (hg : o.guard = none) (hd : ∀ c, o.op ≠ .defer c) (h : o.wp P a w (fun a' w' => wpOpsIn (Fence.wide.inRound l0) n P ops Q rest a' w') Q) :
    wpOpsIn (Fence.wide.inRound l0) n P ops Q (k :: rest) a w := by
  simp only [wpOpsIn, ho]
  have : Region.wanted o (yielded ops a.tmps) = true := by simp [Region.wanted, hg]
  rw [this]
  simp only [if_true]
  exact oper_in hd h

theorem sim_opsR {l0 n : Nat} {ops : Array Oper} {an : Ann} : ∀ (fuel : Nat) {l : List Oper} {k : Nat} {m : AMap} {is : List GI} {w : World} {G : Gh} {ρ : List Nat} {lam : Nat → Option Nat} {a : Act} {st : St}, l.length ≤ fuel →
    (∀ j, ops[k + j]? = l[j]?) → compOps P an nt ops m l = some is → Pre n0 gl nt w G ρ lam a st → Far w0 G0 ρ0 w G ρ → steps (AP P gl) gl is st K →
    (∀ a' w', After n0 gl nt w0 G0 ρ0 K a' w' → Q .normal a' w') → wpOpsIn (Fence.wide.inRound l0) n P ops Q (List.range' k l.length) a w
  | _, [], k, m, is, w, G, ρ, lam, a, st, _, _, hc, p, f, hs, hQ => by
    simp only [compOps, Option.some.injEq] at hc
    subst hc
    exact hQ _ _ (f.after (p.after hs))
  | 0, o :: l, k, m, is, w, G, ρ, lam, a, st, hfu, _, _, _, _, _, _ => by simp at hfu
  | fuel + 1, o :: l, k, m, is, w, G, ρ, lam, a, st, hfu, hl, hc, p, f, hs, hQ => by
    have ho : ops[k]? = some o := by have := hl 0; simpa using this
    rcases compOps_cons hc with ⟨g, is', h1, h3, rfl⟩ | ⟨o2, o3, l', d, ins, e, is', rfl, hx, hd, he, h3, rfl⟩
    · obtain ⟨c1, c2, c3, c4⟩ := compOne_spec h1
      obtain ⟨gd, i⟩ := g
      simp only at c1 c2 c4
      rw [steps_cons] at hs
      rw [List.length_cons, List.range'_succ]
      simp only [wpOpsIn, ho]
      have next : ∀ a' w', After n0 gl nt w G ρ (fun st => steps (AP P gl) gl is' st K) a' w' → wpOpsIn (Fence.wide.inRound l0) n P ops Q (List.range' (k + 1) l.length) a' w' := by
        rintro a' w' ⟨e2, G', ρ', lam', st', e1, e3, e4, e5, e6⟩
        refine sim_opsR fuel (l := l) (k := k + 1) (m := amapOf P m o) (by simp at hfu; omega) (fun j => ?_) h3 ⟨e3, e1, e2⟩ ⟨f.good.trans e4, fun i b h => e5 i b (f.pre i b h)⟩ e6 hQ
        have := hl (j + 1)
        rw [show k + 1 + j = k + (j + 1) by omega, this]; rfl
      have run1 : step (AP P gl) gl i st (fun st => steps (AP P gl) gl is' st K) → o.wpIn (Fence.wide.inRound l0) n P a w (fun a' w' => wpOpsIn (Fence.wide.inRound l0) n P ops Q (List.range' (k + 1) l.length) a' w') Q := by
        intro hs
        rcases c1 with c1 | rfl
        · exact oper_in (compOp_noDefer c1) (Oper.wp_mono next (sim_step p c1 c3 hs))
        · exact hs.elim
      rcases guard_spec c2 p.rel.tm with ⟨rfl, hw⟩ | ⟨s, want, rfl, ⟨b, hb, hw⟩ | ⟨hb, hw⟩ | ⟨g1, g2⟩⟩
      · rw [hw]; simp only [if_true]
        exact run1 hs
      · rw [hw]
        simp only [steps, hb] at hs
        cases hc : cond want b (!b) with
        | true => rw [hc] at hs; simp only [if_true]; exact run1 hs
        | false => rw [hc] at hs; simp only [Bool.false_eq_true, if_false]; exact ⟨fun _ _ => trivial, next _ _ (skip_after p c4.symm c3 hs)⟩
      · rw [hw]
        simp only [steps, hb] at hs
        simp only [Bool.false_eq_true, if_false]
        exact ⟨fun _ _ => trivial, next _ _ (skip_after p c4.symm c3 hs)⟩
      · exfalso
        simp only [steps] at hs
        first
          | exact hs
          | (split at hs
             · rename_i b hb; exact g1 b hb
             · rename_i hb; exact g2 hb
             · exact hs)
    · obtain ⟨s, z, i, y, sz, bnd, rfl, hxs⟩ := isApx_spec hx
      have ho2 : ops[k + 1]? = some o2 := by have := hl 1; simpa using this
      have ho3 : ops[k + 2]? = some o3 := by have := hl 2; simpa using this
      have hs' : step (AP P gl) gl (.apx d s z i y sz bnd) st fun st1 => steps (AP P gl) gl is' ((st1.setO (some e) .undef).setO none .undef) K := hs
      obtain ⟨v1, v2, w1, b, pos, us, xo, x2, G', n', c1, E, fz, r0, r1, r2, r3, r4, r5, r6, r7, r8, r9, r10⟩ := apx_runs p hxs hs'
      obtain ⟨n4, n1, n2, n3⟩ := apx_opd hxs r0
      obtain ⟨t, u, e0, bt, zz, x, t3, q1, q2, q3, q4, q5, q6, q7, q8, q9, _⟩ := hxs.ex
      have hda : d < a.tmps.size := Nat.lt_of_lt_of_le hd p.sz
      have hea : e < a.tmps.size := Nat.lt_of_lt_of_le he p.sz
      rw [List.length_cons, List.length_cons, List.length_cons, List.range'_succ, List.range'_succ, List.range'_succ]
      refine stepIn ho q3 (by intro c; rw [q1]; simp) (wp_value r1 ?_)
      rw [q2]
      refine stepIn ho2 q6 (by intro c; rw [q4]; simp) (wp_value (r2 _ _ ?_ ?_) ?_)
      · rw [put_get hda, if_pos rfl]
      · rw [put_get hda, if_neg (Ne.symm n1)]
      rw [q5]
      refine stepIn ho3 q9 (by intro c; rw [q7]; simp) (wp_skip' (r3 _ _ ?_ ?_ r4) ?_)
      · rw [put_get (by rw [put_size]; exact hea), if_pos rfl]
      · rw [eval_put (fun q hq => (n4 q hq).1), eval_put (fun q hq => (n4 q hq).2)]
      rw [q8]
      have hrel := apx_frame (v2 := v2) r7 r9 hda hea
      refine sim_opsR fuel (l := l') (k := k + 1 + 1 + 1) (m := m) (by simp at hfu; omega) (fun j => ?_) h3 ⟨hrel, p.df.good r8, by simpa [Act.put] using p.sz⟩ ⟨f.good.trans r8, f.pre⟩ r10 hQ
      have := hl (j + 3)
      rw [show k + 1 + 1 + 1 + j = k + (j + 3) by omega, this]; rfl

theorem run_seq_postR {l0 n : Nat} {K : Ex → St → Prop} {b : VC} {y : Code} (hy : ∀ {w : World} {G : Gh} {ρ : List Nat} {lam : Nat → Option Nat} {a : Act} {st : St}, Pre n0 gl nt w G ρ lam a st → Far w0 G0 ρ0 w G ρ →
      run (AP P gl) gl b st K → y.wpIn (Fence.wide.inRound l0) n P (Post n0 gl nt w0 G0 ρ0 K) a w) {e : Exit} {a' : Act} {w' : World}
    (h : Post n0 gl nt w0 G0 ρ0 (fun x st => match x with | .normal => run (AP P gl) gl b st K | x => K x st) e a' w') :
    Exit.then (y.wpIn (Fence.wide.inRound l0) n P (Post n0 gl nt w0 G0 ρ0 K)) (Post n0 gl nt w0 G0 ρ0 K) e a' w' := by
  cases e with
  | normal =>
    obtain ⟨e2, G', ρ', lam', st', e1, e3, e4, e5, e6⟩ := h
    exact hy ⟨e3, e1, e2⟩ ⟨e4, e5⟩ e6
  | exit i => exact h
  | ret => exact h
  | _ => exact h.elim

/-- A round's code. -/
theorem sim_codeR {l0 n : Nat} {an : Ann} {m : AMap} : ∀ (c : Code) {l l' : List (List Nat × List Nat)} {vc : VC} {w0 w : World} {G0 G : Gh} {ρ0 ρ : List Nat} {lam : Nat → Option Nat} {a : Act} {st : St} {K : Ex → St → Prop},
    compC P an nt m c l = some (vc, l') → plainV vc = true → Pre n0 gl nt w G ρ lam a st → Far w0 G0 ρ0 w G ρ → run (AP P gl) gl vc st K → c.wpIn (Fence.wide.inRound l0) n P (Post n0 gl nt w0 G0 ρ0 K) a w := by
  intro c
  induction c with
  | skip =>
    intro l l' vc w0 w G0 G ρ0 ρ lam a st K hc hv p f hr
    simp only [compC, Option.some.injEq, Prod.mk.injEq] at hc
    obtain ⟨rfl, rfl⟩ := hc
    exact wpIn_skip (f.after (p.after hr))
  | region id ops dr =>
    intro l l' vc w0 w G0 G ρ0 ρ lam a st K hc hv p f hr
    simp only [compC] at hc
    split at hc
    · rename_i is his
      cases dr with
      | true =>
        simp only [if_true] at hc
        split at hc
        · simp only [Option.some.injEq, Prod.mk.injEq] at hc
          obtain ⟨rfl, rfl⟩ := hc
          simp [plainV] at hv
        · simp only [Option.some.injEq, Prod.mk.injEq] at hc
          obtain ⟨rfl, rfl⟩ := hc
          exact hr.elim
      | false =>
        simp only [Bool.false_eq_true, if_false, Option.some.injEq, Prod.mk.injEq] at hc
        obtain ⟨rfl, rfl⟩ := hc
        refine wpIn_region ?_
        have : List.range ops.size = List.range' 0 ops.toList.length := by rw [List.range_eq_range', Array.length_toList]
        rw [this]
        exact sim_opsR _ (Nat.le_refl _) (fun j => by simp) his p f hr fun a' w' h => h
    · simp at hc
  | seq x y ihx ihy =>
    intro l l' vc w0 w G0 G ρ0 ρ lam a st K hc hv p f hr
    simp only [compC] at hc
    split at hc
    · rename_i vx l1 hx
      split at hc
      · rename_i vy l2 hy
        simp only [Option.some.injEq, Prod.mk.injEq] at hc
        obtain ⟨rfl, rfl⟩ := hc
        simp only [plainV, Bool.and_eq_true] at hv
        refine wpIn_seq (wpIn_mono (ihx hx hv.1 p f hr) fun e a w h => ?_)
        exact run_seq_postR (fun p f hr => ihy hy hv.2 p f hr) h
      · simp at hc
    · simp at hc
  | cond c x y ihx ihy =>
    intro l l' vc w0 w G0 G ρ0 ρ lam a st K hc hv p f hr
    simp only [compC] at hc
    split at hc
    · rename_i vx co l1 ho hx
      split at hc
      · rename_i vy l2 hy
        simp only [Option.some.injEq, Prod.mk.injEq] at hc
        obtain ⟨rfl, rfl⟩ := hc
        simp only [plainV, Bool.and_eq_true] at hv
        simp only [run] at hr
        obtain ⟨L, hT⟩ := ev_any ho p.rel
        split at hr
        · rename_i t ht
          rw [ht] at hT
          cases t with
          | true => exact wpIn_cond_true hT.bool (ihx hx hv.1 p f hr)
          | false => exact wpIn_cond_false hT.bool (ihy hy hv.2 p f hr)
        · exact hr.elim
      · simp at hc
    · simp at hc
  | block i b ih =>
    intro l l' vc w0 w G0 G ρ0 ρ lam a st K hc hv p f hr
    simp only [compC] at hc
    split at hc
    · rename_i vb l1 hb
      simp only [Option.some.injEq, Prod.mk.injEq] at hc
      obtain ⟨rfl, rfl⟩ := hc
      simp only [plainV] at hv
      refine wpIn_block (wpIn_mono (ih hb hv p f hr) fun e a w h => ?_)
      cases e with
      | normal => exact h
      | ret => exact h
      | exit j =>
        obtain ⟨e2, G', ρ', lam', st', e1, e3, e4, e5, e6⟩ := h
        simp only at e6
        simp only [Exit.inBlock]
        by_cases hj : j = i
        · subst hj
          simp only [Nat.beq_refl, cond] at e6
          simp only [if_true]
          exact ⟨e2, G', ρ', lam', st', e1, e3, e4, e5, e6⟩
        · have : Nat.beq j i = false := by rw [Bool.eq_false_iff]; intro h'; exact hj (Nat.eq_of_beq_eq_true h')
          simp only [this, cond] at e6
          simp only [hj, if_false]
          exact ⟨e2, G', ρ', lam', st', e1, e3, e4, e5, e6⟩
      | _ => exact h.elim
    · simp at hc
  | loop b ih =>
    intro l l' vc w0 w G0 G ρ0 ρ lam a st K hc hv p f hr
    cases l with
    | nil => simp [compC] at hc
    | cons q l =>
      obtain ⟨ts, bs⟩ := q
      simp only [compC] at hc
      split at hc
      · simp only [Option.some.injEq, Prod.mk.injEq] at hc
        obtain ⟨rfl, rfl⟩ := hc
        simp [plainV] at hv
      · simp at hc
  | exit i =>
    intro l l' vc w0 w G0 G ρ0 ρ lam a st K hc hv p f hr
    simp only [compC, Option.some.injEq, Prod.mk.injEq] at hc
    obtain ⟨rfl, rfl⟩ := hc
    exact wpIn_exit (f.after (p.after hr))
  | ret =>
    intro l l' vc w0 w G0 G ρ0 ρ lam a st K hc hv p f hr
    simp only [compC, Option.some.injEq, Prod.mk.injEq] at hc
    obtain ⟨rfl, rfl⟩ := hc
    exact wpIn_ret (f.after (p.after hr))
  | rangeFunc g ps x y _ _ =>
    intro l l' vc w0 w G0 G ρ0 ρ lam a st K hc hv p f hr
    simp only [compC] at hc
    split at hc
    · simp only [Option.ite_none_right_eq_some, Option.some.injEq, Prod.mk.injEq] at hc
      obtain ⟨_, rfl, _⟩ := hc
      simp [plainV] at hv
    · simp at hc
  | scope _ => intro l l' vc w0 w G0 G ρ0 ρ lam a st K hc; simp [compC] at hc
  | label _ => intro l l' vc w0 w G0 G ρ0 ρ lam a st K hc; simp [compC] at hc
  | goto _ => intro l l' vc w0 w G0 G ρ0 ρ lam a st K hc; simp [compC] at hc
  | refuse _ =>
    intro l l' vc w0 w G0 G ρ0 ρ lam a st K hc hv p f hr
    simp only [compC, Option.some.injEq, Prod.mk.injEq] at hc
    obtain ⟨rfl, rfl⟩ := hc
    exact hr.elim

end
end Go.Vm
end

section
/- Ranges over functions: the statement. Conditions: none. -/
namespace Go.Vm

section
variable {P : Program} {gl : Nat → List D} {n0 nt : Nat} {a : Act} {w w' w0 : World} {G G' G0 : Gh} {ρ ρ' ρ0 : List Nat} {lam lam' : Nat → Option Nat} {st st' : St} {K : St → Prop} {o : Oper} {Q : Exit → Act → World → Prop}

theorem cool_rel {L : Loc} {v : Value} {x : Val} (h : RelT w G ρ lam L v x) : RelA w G ρ v (cool x) := by
  rcases h.cases with h | ⟨t, off, b, rfl, _, _⟩
  · rcases h.cases with h | ⟨sz, d, l, rfl, h⟩
    · cases h with
      | nil a sz => exact .d _ _ (.list0 _ _ _)
      | undef v => exact .undef v
      | d v x h' => exact .d v x h'
      | ptr _ _ _ h' => exact .ptr _ _ _ h'
      | map _ _ h' => exact .map _ _ h'
      | sl _ _ _ _ _ _ _ h' hc hz => exact .sl _ _ _ _ _ _ _ h' hc hz
      | func _ _ _ _ _ h1 h2 => exact .func _ _ _ _ _ h1 h2
      | agg _ _ h' => exact .agg _ _ h'
      | tuple _ _ h' => exact .tuple _ _ h'
      | yl _ _ h' => exact .yl _ _ h'
    · exact .d _ _ h.rd
  · exact .undef _

theorem listS_rd {L : Loc} {v : Value} {x : Val} {sz : Nat} {l : List D} (h : RelV w G ρ L v x) (hl : listS x = some (sz, l)) : Rd w G v (.list sz l) ∧ v.oneCell' = true := by
  have hs : ∀ {v : Value} {sz : Nat} {l : List D}, Rd w G v (.list sz l) → v.oneCell' = true := by
    intro v sz l h
    cases h <;> rfl
  cases x with
  | d y =>
    cases y <;> simp only [listS, Option.some.injEq, Prod.mk.injEq, reduceCtorEq] at hl
    obtain ⟨rfl, rfl⟩ := hl
    have h' : RelA w G ρ v (.d (.list _ _)) := h
    cases h' with
    | d _ _ h => exact ⟨h, hs h⟩
  | own sz' l' =>
    simp only [listS, Option.some.injEq, Prod.mk.injEq] at hl
    obtain ⟨rfl, rfl⟩ := hl
    cases l' with
    | nil =>
      have h' : RelA w G ρ v (.own _ []) := h
      cases h' with
      | nil a _ => exact ⟨.list0 _ _ _, rfl⟩
    | cons d l' =>
      have h' : OwnRel w G L v _ (d :: l') := h
      exact ⟨h'.rd, hs h'.rd⟩
  | _ => simp [listS] at hl

/-- A new block that nobody owns. -/
theorem alloc_keeps (o : Obj) : Keeps w G (w.alloc o) G := by
  refine ⟨fun b off v h => ?_, fun b ks vs h => ?_, fun b n h => ?_⟩
  · refine ⟨?_, h.2⟩
    have hb : b < w.heap.size := by
      have := h.1
      unfold World.cell? at this
      rcases Nat.lt_or_ge b w.heap.size with h' | h'
      · exact h'
      · rw [Array.getElem?_eq_none h'] at this; simp at this
    rw [World.cell?_of_block (Go.RowKit.Below.heap_alloc w o b hb)]
    exact h.1
  · obtain ⟨h1, mes, clock, h2, h3⟩ := h
    exact ⟨h1, mes, clock, (Go.RowKit.Below.heap_alloc w o b (Array.getElem?_eq_some_iff.1 h2).1).trans h2, h3⟩
  · obtain ⟨c, E, fz, h2, h3⟩ := h
    exact ⟨c, E, fz, (Go.RowKit.Below.heap_alloc w o b (Array.getElem?_eq_some_iff.1 h2).1).trans h2, h3⟩

theorem alloc_same (o : Obj) (hlt : ∀ b L n, G b = some (L, n) → b < w.heap.size) (L : Loc) : SameL L L w G (w.alloc o) G :=
  fun b _ hb => ⟨Go.RowKit.Below.heap_alloc w o b (hlt _ _ _ hb), hb⟩

theorem alloc_good (o : Obj) (hlt : ∀ b L n, G b = some (L, n) → b < w.heap.size) : Good w G (w.alloc o) G where
  size := by rw [World.size_alloc]; omega
  imm b hb _ := ⟨Go.RowKit.Below.heap_alloc w o b hb, rfl⟩
  new b n hb hG := absurd (hlt _ _ _ hG) (Nat.not_lt.2 hb)
  old _ _ _ h := h
  keep := alloc_keeps o
  os := rfl
  out := rfl

/-- What is known of the function's frame between two rounds. -/
structure Still (w0 : World) (G0 : Gh) (ρ0 : List Nat) (a : Act) (tm0 : Nat → Val) (r : Loop) (W : World) (G : Gh) (ρ : List Nat) : Prop where
  tm : ∀ t, RelA W G ρ0 (a.tmps.getD t undef) (tm0 t)
  far : Far w0 G0 ρ0 W G ρ
  rcd : W.heap[w0.heap.size + 1]? = some (.loop r)
  rcdG : G (w0.heap.size + 1) = none
  blk : W.heap[w0.heap.size]? = some (.deferred (some []))
  blkG : G w0.heap.size = none

/-- What is known of the world. -/
structure Wd (gl : Nat → List D) (W : World) (G : Gh) (ρ : List Nat) (s : Store) : Prop where
  ob : RelObs W G ρ s
  gb : RelG gl W G
  lt : ∀ b L n, G b = some (L, n) → b < W.heap.size

theorem Still.rel {tm0 : Nat → Val} {r : Loop} {W : World} {s : Store} (h : Still w0 G0 ρ0 a tm0 r W G ρ) (hw : Wd gl W G ρ s) : RelS gl W G ρ (fun _ => none) a.tmps ⟨tm0, fun _ => none, s⟩ where
  tm t := .of_A ((h.tm t).keep (Keeps.refl _ _) fun i b => h.far.pre i (b + 1))
  bx t cs hc := by simp at hc
  nb _ _ := rfl
  ob := hw.ob
  gb := hw.gb
  lt := hw.lt

/-- The record is written anew. -/
theorem Still.put {tm0 : Nat → Val} {r : Loop} {W : World} (h : Still w0 G0 ρ0 a tm0 r W G ρ) (r' : Loop) : Still w0 G0 ρ0 a tm0 r' (W.putObj (w0.heap.size + 1) (.loop r')) G ρ := by
  have hk := put_keeps (G := G) (o' := .loop r') h.rcd rfl
  exact ⟨fun t => (h.tm t).keep hk fun _ _ h => h, ⟨h.far.good.putObj h.rcd rfl (by omega), h.far.pre⟩, World.putObj_heap_same (Array.getElem?_eq_some_iff.1 h.rcd).1, h.rcdG, (World.putObj_heap_other (by omega)).trans h.blk, h.blkG⟩

theorem Still.putW {tm0 : Nat → Val} {r : Loop} {W : World} {s : Store} (h : Still w0 G0 ρ0 a tm0 r W G ρ) (hw : Wd gl W G ρ s) (r' : Loop) : Wd gl (W.putObj (w0.heap.size + 1) (.loop r')) G ρ s := by
  have hk := put_keeps (G := G) (o' := .loop r') h.rcd rfl
  have hs := fun L => put_same (w := W) (o' := .loop r') h.rcdG L
  exact ⟨hw.ob.tr hk (fun _ => hs _) (fun _ _ => hs _), hw.gb.tr hk, fun b L n hb => by rw [World.putObj_size]; exact hw.lt b L n hb⟩

/-- A run leaves it so. -/
theorem Still.run {tm0 : Nat → Val} {r : Loop} {W W' : World} {G' : Gh} {ρ' : List Nat} (h : Still w0 G0 ρ0 a tm0 r W G ρ) (hg : Good W G W' G') (hρ : ∀ i b : Nat, ρ0[i]? = some b → ρ'[i]? = some b) :
    Still w0 G0 ρ0 a tm0 r W' G' ρ' := by
  have h1 := hg.imm _ (Array.getElem?_eq_some_iff.1 h.rcd).1 (.inl h.rcdG)
  have h2 := hg.imm _ (Array.getElem?_eq_some_iff.1 h.blk).1 (.inl h.blkG)
  exact ⟨fun t => (h.tm t).keep hg.keep fun _ _ h => h, ⟨h.far.good.trans hg, hρ⟩, h1.1.trans h.rcd, h1.2.trans h.rcdG, h2.1.trans h.blk, h2.2.trans h.blkG⟩

theorem RelS.wd {tmps : Array Value} (h : RelS gl w G ρ lam tmps st) : Wd gl w G ρ st.s := ⟨h.ob, h.gb, h.lt⟩

end
end Go.Vm
end

section
/- Ranges over functions: one round. Conditions: none. -/
namespace Go.Vm

section
variable {P : Program} {gl : Nat → List D} {n0 nt : Nat} {a : Act} {w w' w0 : World} {G G' G0 : Gh} {ρ ρ' ρ0 : List Nat} {lam lam' : Nat → Option Nat} {st st' : St} {o : Oper} {Q : Exit → Act → World → Prop}

/-- What a jump stands for. -/
def jumpEx : Code → Option Ex
  | .ret => some .ret
  | .exit i => some (.exit i)
  | _ => none

def setV (tmps : Array Value) : List Nat → List Value → Array Value
  | p :: ps, v :: vs => setV (tmps.setIfInBounds p v) ps vs
  | _, _ => tmps

theorem setV_size : ∀ (ps : List Nat) (vs : List Value) (tmps : Array Value), (setV tmps ps vs).size = tmps.size
  | [], _, _ => by simp [setV]
  | _ :: _, [], _ => by simp [setV]
  | p :: ps, v :: vs, tmps => by simp [setV, setV_size ps vs]

theorem setV_fold (ps : List Nat) (vs : List Value) (tmps : Array Value) :
    (((⟨ps⟩ : Array Nat).zip (⟨vs⟩ : Array Value)).foldl (fun tmps (x : Nat × Value) => match x with | (t, a) => tmps.setIfInBounds t a) tmps) = setV tmps ps vs := by
  have e : ((⟨ps⟩ : Array Nat).zip (⟨vs⟩ : Array Value)) = ⟨ps.zip vs⟩ := by
    apply Array.ext'; simp
  rw [e]
  simp only [List.foldl_toArray']
  induction ps generalizing vs tmps with
  | nil => simp [setV]
  | cons p ps ih =>
    cases vs with
    | nil => simp [setV]
    | cons v vs => simp only [List.zip_cons_cons, List.foldl_cons, setV]; exact ih vs _ (by apply Array.ext'; simp)

theorem round_tmps {gl : Nat → List D} {W : World} {G : Gh} {ρ : List Nat} : ∀ {ps : List Nat} {vs : List Value} {xs : List Val} {tmps : Array Value} {st0 : St}, RelS gl W G ρ (fun _ => none) tmps st0 → (∀ p, p ∈ ps → p < tmps.size) →
    RelL W G ρ vs xs → RelS gl W G ρ (fun _ => none) (setV tmps ps vs) { st0 with tm := setPs st0.tm ps xs }
  | [], vs, xs, tmps, st0, h, _, _ => by simpa [setV, setPs] using h
  | p :: ps, vs, xs, tmps, st0, h, hp, hr => by
    cases hr with
    | nil => simpa [setV, setPs] using h
    | cons v x vs xs h1 h2 =>
      simp only [setV, setPs]
      exact round_tmps (st0 := st0.set p x) (h.set (hp p (by simp)) (.of_A h1)) (fun q hq => by simpa using hp q (by simp [hq])) h2

/-- One round. -/
theorem round_sim {an : Ann} {m : AMap} {x y : Code} {l1 l2 l3 l4 : List (List Nat × List Nat)} {va vb : VC} (ha : compC P an nt m x l1 = some (va, l2)) (hb : compC P an nt m y l3 = some (vb, l4)) (hpa : plainV va = true) (hpb : plainV vb = true)
    {tm0 : Nat → Val} {r : Loop} (hst : r.state = .ready) (_hpend : r.pending = none) {W : World} {s : Store} (h : Still w0 G0 ρ0 a tm0 r W G ρ) (hw : Wd gl W G ρ s) {ps : List Nat} {vs : List Value} {xs : List Val}
    (hps : ∀ p, p ∈ ps → p < a.tmps.size) (hsz : nt ≤ a.tmps.size) (rr : RelL W G ρ vs xs) {KB : Option Ex → Store → Prop} {f n : Nat}
    (hr : roundY (AP P gl) (run (AP P gl) gl va) (run (AP P gl) gl vb) ps ⟨tm0, fun _ => none, s⟩ xs s KB) :
    RoundIn Fence.wide n P (w0.heap.size + 1) f (setV a.tmps ps vs) x y W fun e W' =>
      ∃ c G' ρ' s', e = .returned (.bool (c : Option Code).isNone) ∧ (∀ j, c = some j → (jumpEx j).isSome = true) ∧ Still w0 G0 ρ0 a tm0 { r with state := if c.isNone then .ready else .done, pending := c } W' G' ρ' ∧ Wd gl W' G' ρ' s' ∧
        Keeps W G W' G' ∧ (∀ b, b ≠ w0.heap.size + 1 → b < W.heap.size → G b = none → W'.heap[b]? = W.heap[b]? ∧ G' b = none) ∧ (∀ i b : Nat, ρ[i]? = some b → ρ'[i]? = some b) ∧ KB (c.bind jumpEx) s' := by
  have hrel := round_tmps (h.rel hw) hps rr
  have p : Pre 0 gl nt W G ρ (fun _ => none) { tmps := setV a.tmps ps vs, defers := [] } { tm := setPs tm0 ps xs, bx := fun _ => none, s := s } := ⟨hrel, .nil, by rw [setV_size]; exact hsz⟩
  refine roundIn_of_wpIn trivial ?_
  obtain ⟨_, hr⟩ := hr
  refine wpIn_mono (sim_codeR x ha hpa p p.far hr) ?_
  intro e a1 W1 hpost
  cases e with
  | normal =>
    obtain ⟨q2, G1, ρ1, lam1, st1, q1, q3, q4, q5, q6⟩ := hpost
    have s1 := h.run q4 (fun i b hi => q5 i b (h.far.pre i b hi))
    refine ⟨_, run_beginRound s1.rcd hst, ?_⟩
    have s2 := s1.put { r with state := .busy }
    have g2 : Keeps W G (W1.putObj (w0.heap.size + 1) (.loop { r with state := .busy })) G1 := q4.keep.trans (put_keeps s1.rcd rfl)
    have p2 : Pre 0 gl nt (W1.putObj (w0.heap.size + 1) (.loop { r with state := .busy })) G1 ρ1 lam1 a1 st1 := by
      refine ⟨q3.putObj s1.rcd rfl s1.rcdG, ?_, q2⟩
      obtain ⟨Ds, e1, e2, e3⟩ := q1
      refine ⟨Ds, e1, e2, fun D hD => ?_⟩
      obtain ⟨g1, g2, g3⟩ := e3 D hD
      have hne : D ≠ w0.heap.size + 1 := by intro e; subst e; rw [s1.rcd] at g2; simp at g2
      exact ⟨g1, (World.putObj_heap_other hne).trans g2, g3⟩
    refine wpIn_mono (sim_codeR y hb hpb p2 p2.far q6) ?_
    have fin : ∀ (jump : Option Code) {W2 : World} {G2 : Gh} {ρ2 : List Nat} {lam2 : Nat → Option Nat} {a2 : Act} {st2 : St}, RelS gl W2 G2 ρ2 lam2 a2.tmps st2 → Good (W1.putObj (w0.heap.size + 1) (.loop { r with state := .busy })) G1 W2 G2 →
        (∀ i b : Nat, ρ1[i]? = some b → ρ2[i]? = some b) → ∃ W', (Instr.endRound (w0.heap.size + 1) jump).run P W2 = .ok (.bool jump.isNone) W' ∧
          Still w0 G0 ρ0 a tm0 { r with state := if jump.isNone then .ready else .done, pending := jump } W' G2 ρ2 ∧ Wd gl W' G2 ρ2 st2.s ∧ Keeps W G W' G2 ∧ (∀ b, b ≠ w0.heap.size + 1 → b < W.heap.size → G b = none → W'.heap[b]? = W.heap[b]? ∧ G2 b = none) ∧ (∀ i b : Nat, ρ[i]? = some b → ρ2[i]? = some b) := by
      intro jump W2 G2 ρ2 lam2 a2 st2 t1 t2 t3
      have s3 := s2.run t2 (fun i b hi => t3 i b (q5 i b (h.far.pre i b hi)))
      exact ⟨_, run_endRound jump s3.rcd, s3.put _, s3.putW t1.wd _, (g2.trans t2.keep).trans (put_keeps s3.rcd rfl), fun b hb1 hb2 hb3 => by
        obtain ⟨i1, i2⟩ := q4.imm b hb2 (.inl hb3)
        rw [hb3] at i2
        obtain ⟨i3, i4⟩ := t2.imm b (by rw [World.putObj_size]; exact Nat.lt_of_lt_of_le hb2 q4.size) (.inl i2)
        exact ⟨(World.putObj_heap_other hb1).trans (i3.trans ((World.putObj_heap_other hb1).trans i1)), i4.trans i2⟩, fun i b hi => t3 i b (q5 i b hi)⟩
    intro e a2 W2 hpost
    cases e with
    | normal =>
      obtain ⟨t2, G2, ρ2, lam2, st2, t1, t3, t4, t5, t6⟩ := hpost
      obtain ⟨W', hrun, s4, s5, s6, s8, s7⟩ := fin none t3 t4 t5
      exact ⟨_, W', hrun, none, G2, ρ2, st2.s, rfl, fun j hj => by simp at hj, s4, s5, s6, s8, s7, t6⟩
    | ret =>
      obtain ⟨t2, G2, ρ2, lam2, st2, t1, t3, t4, t5, t6⟩ := hpost
      obtain ⟨W', hrun, s4, s5, s6, s8, s7⟩ := fin (some .ret) t3 t4 t5
      exact ⟨_, W', hrun, some .ret, G2, ρ2, st2.s, rfl, fun j hj => by cases hj; rfl, s4, s5, s6, s8, s7, t6⟩
    | exit i =>
      obtain ⟨t2, G2, ρ2, lam2, st2, t1, t3, t4, t5, t6⟩ := hpost
      obtain ⟨W', hrun, s4, s5, s6, s8, s7⟩ := fin (some (.exit i)) t3 t4 t5
      exact ⟨_, W', hrun, some (.exit i), G2, ρ2, st2.s, rfl, fun j hj => by cases hj; rfl, s4, s5, s6, s8, s7, t6⟩
    | _ => exact hpost.elim
  | exit i => obtain ⟨_, _, _, _, _, _, _, _, _, h⟩ := hpost; exact h.elim
  | ret => obtain ⟨_, _, _, _, _, _, _, _, _, h⟩ := hpost; exact h.elim
  | _ => exact hpost.elim

end
end Go.Vm
end

section
/- Ranges over functions: the iterator's code. Conditions: none. -/
namespace Go.Vm

section
variable {P : Program} {gl : Nat → List D} {n0 nt : Nat} {a : Act} {w w' w0 : World} {G G' G0 : Gh} {ρ ρ' ρ0 : List Nat} {lam lam' : Nat → Option Nat} {st st' : St} {o : Oper} {Q : Exit → Act → World → Prop}
variable {O : Option Ex → World → Gh → List Nat → Prop} {Y : Yd Prop} {yi lb : Nat}

/-- What is kept of the function that ranges. -/
structure Keep (O : Option Ex → World → Gh → List Nat → Prop) (ρ0 : List Nat) (lb : Nat) : Prop where
  run : ∀ p W G ρ W' G' ρ', O p W G ρ → Good W G W' G' → (∀ i b : Nat, ρ0[i]? = some b → ρ'[i]? = some b) → O p W' G' ρ'
  pre : ∀ p W G ρ, O p W G ρ → ∀ i b : Nat, ρ0[i]? = some b → ρ[i]? = some b
  rcd : ∀ p W G ρ, O p W G ρ → ∃ r, W.heap[lb]? = some (.loop r)

/-- What a call of yield does. -/
def YieldOk (P : Program) (gl : Nat → List D) (O : Option Ex → World → Gh → List Nat → Prop) (Y : Yd Prop) (lb m : Nat) : Prop :=
  ∀ (W : World) (G : Gh) (ρ : List Nat) (s : Store) (vs : List Value) (xs : List Val) (KB : Option Ex → Store → Prop), O none W G ρ → Wd gl W G ρ s → RelL W G ρ vs xs → Y xs s KB →
    YieldAt Fence.wide m P lb ⟨vs⟩ W fun e W' => ∃ (p' : Option Ex) (G' : Gh) (ρ' : List Nat) (s' : Store), e = .returned (.bool p'.isNone) ∧ O p' W' G' ρ' ∧ Wd gl W' G' ρ' s' ∧ Keeps W G W' G' ∧
      (∀ b, b ≠ lb → b < W.heap.size → G b = none → W'.heap[b]? = W.heap[b]? ∧ G' b = none) ∧ (∀ i b : Nat, ρ[i]? = some b → ρ'[i]? = some b) ∧ KB p' s'

def AfterY (n0 : Nat) (gl : Nat → List D) (nt : Nat) (O : Option Ex → World → Gh → List Nat → Prop) (K : St → Option Ex → Prop) (a' : Act) (w' : World) : Prop :=
  nt ≤ a'.tmps.size ∧ ∃ G' ρ' lam' st' p', Marks n0 w' G' a'.defers ∧ RelS gl w' G' ρ' lam' a'.tmps st' ∧ O p' w' G' ρ' ∧ K st' p'

def PostY (n0 : Nat) (gl : Nat → List D) (nt : Nat) (O : Option Ex → World → Gh → List Nat → Prop) (K : Ex → St → Option Ex → Prop) : Exit → Act → World → Prop
  | .normal, a', w' => AfterY n0 gl nt O (K .normal) a' w'
  | .exit i, a', w' => AfterY n0 gl nt O (K (.exit i)) a' w'
  | .ret, a', w' => AfterY n0 gl nt O (K .ret) a' w'
  | _, _, _ => False

theorem after_Y {pp : Option Ex} {K : St → Option Ex → Prop} {a' : Act} (hk : Keep O ρ0 lb) (ho : O pp w G ρ) (h : After n0 gl nt w G ρ (fun st => K st pp) a' w') : AfterY n0 gl nt O K a' w' := by
  obtain ⟨e2, G', ρ', lam', st', e1, e3, e4, e5, e6⟩ := h
  exact ⟨e2, G', ρ', lam', st', pp, e1, e3, hk.run _ _ _ _ _ _ _ ho e4 (fun i b hi => e5 i b (hk.pre _ _ _ _ ho i b hi)), e6⟩

/-- An operation, within the widest fence. -/
theorem oper_wide {n : Nat} {next : Act → World → Prop} (h : o.wp P a w next Q) : o.wpIn Fence.wide n P a w next Q := by
  refine ⟨fun _ _ => trivial, ?_⟩
  rw [show Fence.wide.round = none from rfl, Oper.semAt_none]
  unfold Oper.wp at h
  generalize (execOp a.eval o).run P w = r at h
  cases r with
  | ok nx w' =>
    cases nx with
    | value v => exact h
    | skip => exact h
    | defer d => exact h
    | enter f args => exact ⟨fun h => by simp [Fence.wide] at h, callsIn_wide.2 h⟩
    | row r args =>
      refine ⟨fun h => by simp [Fence.wide] at h, ?_⟩
      intro c cs _
      obtain ⟨v, w2, h1, h2⟩ := h c cs
      exact ⟨v, w2, h1, stepsIn_wide.2 h2⟩
    | _ => exact h.elim
  | halt e w' => cases e <;> first | exact h | exact h.elim

theorem Marks.keepY {l : List Deferred} (h : Marks n0 w G l) (hr : ∃ r, w.heap[lb]? = some (.loop r)) (hi : ∀ b, b ≠ lb → b < w.heap.size → G b = none → w'.heap[b]? = w.heap[b]? ∧ G' b = none) : Marks n0 w' G' l := by
  obtain ⟨Ds, h1, h2, h3⟩ := h
  refine ⟨Ds, h1, h2, fun D hD => ?_⟩
  obtain ⟨e1, e2, e3⟩ := h3 D hD
  have hne : D ≠ lb := by rintro rfl; obtain ⟨r, hr⟩ := hr; rw [hr] at e2; simp at e2
  obtain ⟨i1, i2⟩ := hi D hne (Array.getElem?_eq_some_iff.1 e2).1 e3
  exact ⟨e1, i1.trans e2, i2⟩

/-- Is it no call of a value? -/
def noCl : I → Bool
  | .cl .. => false
  | _ => true

theorem noCl_map {α : Type} {x : Option α} {f : α → I} {i : I} (hf : ∀ a, noCl (f a) = true) (h : x.map f = some i) : noCl i = true := by
  obtain ⟨a, _, rfl⟩ := Option.map_eq_some_iff.1 h
  exact hf a

theorem noCl_bind {α : Type} {x : Option α} {f : α → Option I} {i : I} (hf : ∀ a, f a = some i → noCl i = true) (h : x.bind f = some i) : noCl i = true := by
  obtain ⟨a, _, h⟩ := Option.bind_eq_some_iff.1 h
  exact hf a h

theorem cl_inv {an : Ann} {m : AMap} {d : Option Nat} {f : Vm.O} {args : List Vm.O} (h : compOp P an m o = some (.cl d f args)) :
    ∃ c fo t, o.op = .call c ∧ o.dst = d ∧ c.callee = .value fo ∧ opd P t fo = some f ∧ All2 (fun x y => ∃ t, opd P t x = some y) c.args.toList args := by
  have key : noCl (.cl d f args) = false := rfl
  by_cases hv : ∃ c fo, o.op = .call c ∧ c.callee = .value fo
  · obtain ⟨c, fo, hop, hc⟩ := hv
    unfold compOp at h
    rw [hop] at h
    simp only [hc, Option.bind_eq_bind, Option.bind_eq_some_iff] at h
    obtain ⟨ys, hy, h⟩ := h
    have hy := zipIdx_opd (f := fun _ i => c.argTypes.getD i 0) hy
    split at h
    · split at h
      · simp at h
      · split at h
        · simp at h
        · simp only [Option.some.injEq, I.cl.injEq] at h
          obtain ⟨rfl, rfl, rfl⟩ := h
          exact ⟨c, _, 0, hop, rfl, hc, rfl, hy⟩
    · simp only [Option.bind_eq_some_iff, Option.some.injEq, I.cl.injEq] at h
      obtain ⟨f1, hf, rfl, rfl, rfl⟩ := h
      exact ⟨c, _, 0, hop, rfl, hc, hf, hy⟩
  · exfalso
    have : noCl (.cl d f args) = true := by
      generalize I.cl d f args = i at h
      unfold compOp at h
      split at h
      case h_27 =>
        rename_i c hop
        split at h
        · exact absurd ⟨_, _, hop, ‹_›⟩ hv
        all_goals
          repeat' first
            | (cases h; done)
            | (cases h; rfl)
            | (refine noCl_map (fun _ => ?_) h <;> rfl)
            | (replace h := Option.bind_eq_some_iff.1 h; obtain ⟨_, _, h⟩ := h)
            | (unfold bldI at h)
            | (split at h)
            | (dsimp only at h; split at h)
      all_goals
        repeat' first
          | (cases h; done)
          | (cases h; rfl)
          | (exact noCl_map (fun _ => rfl) h)
          | (refine noCl_map (fun _ => ?_) h; split <;> rfl)
          | (replace h := Option.bind_eq_some_iff.1 h; obtain ⟨_, _, h⟩ := h)
          | (unfold bldI at h)
          | (split at h)
          | (dsimp only at h; split at h)
    rw [key] at this
    cases this

theorem stepY_cases {R : Type} {A : Alg R} {Y : Yd R} {i : I} {st : St} {pp : Option Ex} {K : St → Option Ex → R} :
    (∃ j d f args, i = .cl d f args ∧ ev gl st f = .yl j ∧ stepY A gl Y yi i st pp K = A.guard (Nat.beq j yi) (yieldY A gl Y d args st pp K)) ∨ stepY A gl Y yi i st pp K = step A gl i st fun st => K st pp := by
  cases i with
  | cl d f args =>
    cases hv : ev gl st f with
    | yl j => exact .inl ⟨j, d, f, args, rfl, hv, by simp only [stepY, calledV, hv]⟩
    | _ => exact .inr (by simp only [stepY, calledV, hv])
  | _ => exact .inr rfl

theorem Wd.cooled {W' : World} {s' : Store} (h : RelS gl w G ρ lam a.tmps st) (hw : Wd gl W' G' ρ' s') (hk : Keeps w G W' G') (hρ : ∀ i b : Nat, ρ[i]? = some b → ρ'[i]? = some b) :
    RelS gl W' G' ρ' (fun _ => none) a.tmps { st.cool with s := s' } where
  tm t := .of_A ((cool_rel (h.tm t)).keep hk fun i b => hρ i (b + 1))
  bx t cs hc := by simp [St.cool] at hc
  nb _ _ := rfl
  ob := hw.ob
  gb := hw.gb
  lt := hw.lt

/-- A call of yield. -/
theorem sim_yield {n : Nat} {an : Ann} {m : AMap} {d : Option Nat} {f : Vm.O} {args : List Vm.O} {pp : Option Ex} {K : St → Option Ex → Prop} (hY : YieldOk P gl O Y lb (n - 1)) (hk : Keep O ρ0 lb) (hyi : ρ0[yi]? = some (lb + 1)) (p : Pre n0 gl nt w G ρ lam a st)
    (ho : O pp w G ρ) (h : compOp P an m o = some (.cl d f args)) (hd : dstOk nt o = true) (hf : ev gl st f = .yl yi) (hs : yieldY (AP P gl) gl Y d args st pp K) : o.wpIn Fence.wide n P a w (AfterY n0 gl nt O K) Q := by
  obtain ⟨c, fo, t, hop, hdst, hc, hfo, hx⟩ := cl_inv h
  obtain ⟨hg, hs⟩ := hs
  simp only [Bool.and_eq_true] at hg
  obtain rfl : pp = none := by simpa using hg.1
  obtain ⟨L, hT⟩ := ev_any hfo p.rel
  rw [hf] at hT
  have hA : RelA w G ρ (a.eval fo) (.yl yi) := hT
  have hfv : a.eval fo = .func (.yield lb) #[] #[] := by
    generalize a.eval fo = v at hA
    cases hA with
    | yl _ l hl =>
      have := hk.pre _ _ _ _ ho yi _ hyi
      rw [hl] at this
      cases this; rfl
  have hargs := args_rel p hx hg.2
  obtain ⟨fn, tmps, assign, body, hrun, hround⟩ := hY w G ρ st.s _ _ _ ho p.rel.wd hargs hs
  have hr : (execOp a.eval o).run P w = .ok (.round lb fn tmps assign body) w := by
    have e : (#[] : Array Value) ++ (⟨c.args.toList.map a.eval⟩ : Array Value) ++ #[] = ⟨c.args.toList.map a.eval⟩ := by simp
    simp only [execOp, hop, Sem.run_bind, resolve, hc, hfv, Deferred.ofValue, Sem.run_pure, Result.andThen_ok, invoke]
    rw [← hrun]
    congr 2
    apply Array.ext'; simp
  refine ⟨fun _ _ => trivial, ?_⟩
  rw [show Fence.wide.round = none from rfl, Oper.semAt_none, hr, Oper.uponIn_round]
  refine ⟨fun h => by simp [Fence.wide] at h, hround.mono ?_⟩
  rintro e W' ⟨p', G', ρ', s', rfl, h1, h2, h3, h4, h5, h6⟩
  have hrel := Wd.cooled p.rel h2 h3 h5
  have hm : Marks n0 W' G' a.defers := p.df.keepY (hk.rcd _ _ _ _ ho) h4
  show AfterY n0 gl nt O K (a.put o.dst (.bool p'.isNone)) W'
  rw [hdst]
  cases d with
  | none => exact ⟨p.sz, G', ρ', _, _, p', hm, hrel, h1, h6⟩
  | some d =>
    have hdt : d < a.tmps.size := by
      unfold dstOk at hd
      rw [hdst] at hd
      exact Nat.lt_of_lt_of_le (by simpa [Nat.blt_eq] using hd) p.sz
    exact ⟨by rw [put_size]; exact p.sz, G', ρ', _, _, p', by rw [put_defers]; exact hm, hrel.set hdt (.of_A (.d _ _ (.bool _))), h1, h6⟩

/-- One operation. -/
theorem sim_opY {n : Nat} {an : Ann} {m : AMap} {i : I} {pp : Option Ex} {K : St → Option Ex → Prop} (hY : YieldOk P gl O Y lb (n - 1)) (hk : Keep O ρ0 lb) (hyi : ρ0[yi]? = some (lb + 1)) (p : Pre n0 gl nt w G ρ lam a st)
    (ho : O pp w G ρ) (h : compOp P an m o = some i) (hd : dstOk nt o = true) (hs : stepY (AP P gl) gl Y yi i st pp K) : o.wpIn Fence.wide n P a w (AfterY n0 gl nt O K) Q := by
  rcases stepY_cases (gl := gl) (yi := yi) (A := AP P gl) (Y := Y) (i := i) (st := st) (pp := pp) (K := K) with ⟨j, d, f, args, rfl, hf, he⟩ | he
  · rw [he] at hs
    obtain ⟨hj, hs⟩ := hs
    obtain rfl := Nat.eq_of_beq_eq_true hj
    exact sim_yield hY hk hyi p ho h hd hf hs
  · rw [he] at hs
    exact oper_wide (Oper.wp_mono (fun a' w' h => after_Y hk ho h) (sim_step p h hd hs))

/-- It stands where it stands. -/
theorem Pre.afterY {pp : Option Ex} {K : St → Option Ex → Prop} (p : Pre n0 gl nt w G ρ lam a st) (ho : O pp w G ρ) (h : K st pp) : AfterY n0 gl nt O K a w :=
  ⟨p.sz, G, ρ, lam, st, pp, p.df, p.rel, ho, h⟩

theorem stepsY_cons {R : Type} (A : Alg R) (gl : Nat → List D) (Y : Yd R) (yi : Nat) (g : GI) (l : List GI) (st : St) (pp : Option Ex) (K : St → Option Ex → R) :
    stepsY A gl Y yi (g :: l) st pp K = stepsY A gl Y yi [g] st pp fun st pp => stepsY A gl Y yi l st pp K := by
  obtain ⟨g, i⟩ := g
  cases g with
  | none => rfl
  | some q => obtain ⟨s, want⟩ := q; simp only [stepsY]

/-- One unguarded operation. -/
theorem stepInY {n k : Nat} {ops : Array Oper} {rest : List Nat} (ho : ops[k]? = some o) (hg : o.guard = none) (h : o.wp P a w (fun a' w' => wpOpsIn Fence.wide n P ops Q rest a' w') Q) :
    wpOpsIn Fence.wide n P ops Q (k :: rest) a w := by
  simp only [wpOpsIn, ho]
  have : Region.wanted o (yielded ops a.tmps) = true := by simp [Region.wanted, hg]
  rw [this]
  simp only [if_true]
  exact oper_wide h

theorem sim_opsY {n : Nat} {ops : Array Oper} {an : Ann} {K : St → Option Ex → Prop} (hY : YieldOk P gl O Y lb (n - 1)) (hk : Keep O ρ0 lb) (hyi : ρ0[yi]? = some (lb + 1)) :
    ∀ (fuel : Nat) {l : List Oper} {k : Nat} {m : AMap} {is : List GI} {w : World} {G : Gh} {ρ : List Nat} {lam : Nat → Option Nat} {a : Act} {st : St} {pp : Option Ex}, l.length ≤ fuel →
    (∀ j, ops[k + j]? = l[j]?) → compOps P an nt ops m l = some is → Pre n0 gl nt w G ρ lam a st → O pp w G ρ → stepsY (AP P gl) gl Y yi is st pp K →
    (∀ a' w', AfterY n0 gl nt O K a' w' → Q .normal a' w') → wpOpsIn Fence.wide n P ops Q (List.range' k l.length) a w
  | _, [], k, m, is, w, G, ρ, lam, a, st, pp, _, _, hc, p, ho, hs, hQ => by
    simp only [compOps, Option.some.injEq] at hc
    subst hc
    exact hQ _ _ (p.afterY ho hs)
  | 0, o :: l, k, m, is, w, G, ρ, lam, a, st, pp, hfu, _, _, _, _, _, _ => by simp at hfu
  | fuel + 1, o :: l, k, m, is, w, G, ρ, lam, a, st, pp, hfu, hl, hc, p, ho, hs, hQ => by
    have hop : ops[k]? = some o := by have := hl 0; simpa using this
    rcases compOps_cons hc with ⟨g, is', h1, h3, rfl⟩ | ⟨o2, o3, l', d, ins, e, is', rfl, hx, hd, he, h3, rfl⟩
    · obtain ⟨c1, c2, c3, c4⟩ := compOne_spec h1
      obtain ⟨gd, i⟩ := g
      simp only at c1 c2 c4
      rw [stepsY_cons] at hs
      rw [List.length_cons, List.range'_succ]
      simp only [wpOpsIn, hop]
      have next : ∀ a' w', AfterY n0 gl nt O (fun st pp => stepsY (AP P gl) gl Y yi is' st pp K) a' w' → wpOpsIn Fence.wide n P ops Q (List.range' (k + 1) l.length) a' w' := by
        rintro a' w' ⟨e2, G', ρ', lam', st', p', e1, e3, e4, e5⟩
        refine sim_opsY hY hk hyi fuel (l := l) (k := k + 1) (m := amapOf P m o) (by simp at hfu; omega) (fun j => ?_) h3 ⟨e3, e1, e2⟩ e4 e5 hQ
        have := hl (j + 1)
        rw [show k + 1 + j = k + (j + 1) by omega, this]; rfl
      have mono : ∀ {K' : St → Option Ex → Prop}, (∀ st pp, K' st pp → stepsY (AP P gl) gl Y yi is' st pp K) → o.wpIn Fence.wide n P a w (AfterY n0 gl nt O K') Q → o.wpIn Fence.wide n P a w (wpOpsIn Fence.wide n P ops Q (List.range' (k + 1) l.length)) Q :=
        fun hK h => Oper.wpIn_mono (fun a' w' h => next a' w' (by obtain ⟨e2, G', ρ', lam', st', p', e1, e3, e4, e5⟩ := h; exact ⟨e2, G', ρ', lam', st', p', e1, e3, e4, hK _ _ e5⟩)) h
      have run1 : stepY (AP P gl) gl Y yi i st pp (fun st pp => stepsY (AP P gl) gl Y yi is' st pp K) → o.wpIn Fence.wide n P a w (wpOpsIn Fence.wide n P ops Q (List.range' (k + 1) l.length)) Q := by
        intro hs
        rcases c1 with c1 | rfl
        · exact mono (fun _ _ h => h) (sim_opY hY hk hyi p ho c1 c3 hs)
        · exact hs.elim
      have skip : ∀ {K' : St → Option Ex → Prop}, (∀ st pp, K' st pp → stepsY (AP P gl) gl Y yi is' st pp K) → K' (st.setO i.dst (.tuple [])) pp → wpOpsIn Fence.wide n P ops Q (List.range' (k + 1) l.length) (a.put o.dst undef) w :=
        fun hK h => next _ _ (after_Y hk ho (skip_after p c4.symm c3 (hK _ _ h)))
      rcases guard_spec c2 p.rel.tm with ⟨rfl, hw⟩ | ⟨s, want, rfl, ⟨b, hb, hw⟩ | ⟨hb, hw⟩ | ⟨g1, g2⟩⟩
      · rw [hw]; simp only [if_true]
        exact run1 hs
      · rw [hw]
        simp only [stepsY, hb] at hs
        cases hc : cond want b (!b) with
        | true => rw [hc] at hs; simp only [if_true]; exact run1 hs
        | false => rw [hc] at hs; simp only [Bool.false_eq_true, if_false]; exact ⟨fun _ _ => trivial, skip (K' := fun st pp => stepsY (AP P gl) gl Y yi is' st pp K) (fun _ _ h => h) hs⟩
      · rw [hw]
        simp only [stepsY, hb] at hs
        simp only [Bool.false_eq_true, if_false]
        exact ⟨fun _ _ => trivial, skip (K' := fun st pp => stepsY (AP P gl) gl Y yi is' st pp K) (fun _ _ h => h) hs⟩
      · exfalso
        simp only [stepsY] at hs
        first
          | exact hs
          | (split at hs
             · rename_i b hb; exact g1 b hb
             · rename_i hb; exact g2 hb
             · exact hs)
    · obtain ⟨s, z, i, y, sz, bnd, rfl, hxs⟩ := isApx_spec hx
      have ho2 : ops[k + 1]? = some o2 := by have := hl 1; simpa using this
      have ho3 : ops[k + 2]? = some o3 := by have := hl 2; simpa using this
      have hs' : step (AP P gl) gl (.apx d s z i y sz bnd) st fun st1 => stepsY (AP P gl) gl Y yi is' ((st1.setO (some e) .undef).setO none .undef) pp K := hs
      obtain ⟨v1, v2, w1, b, pos, us, xo, x2, G', n', c1, E, fz, r0, r1, r2, r3, r4, r5, r6, r7, r8, r9, r10⟩ := apx_runs p hxs hs'
      obtain ⟨n4, n1, n2, n3⟩ := apx_opd hxs r0
      obtain ⟨t, u, e0, bt, zz, x, t3, q1, q2, q3, q4, q5, q6, q7, q8, q9, _⟩ := hxs.ex
      have hda : d < a.tmps.size := Nat.lt_of_lt_of_le hd p.sz
      have hea : e < a.tmps.size := Nat.lt_of_lt_of_le he p.sz
      rw [List.length_cons, List.length_cons, List.length_cons, List.range'_succ, List.range'_succ, List.range'_succ]
      refine stepInY hop q3 (wp_value r1 ?_)
      rw [q2]
      refine stepInY ho2 q6 (wp_value (r2 _ _ ?_ ?_) ?_)
      · rw [put_get hda, if_pos rfl]
      · rw [put_get hda, if_neg (Ne.symm n1)]
      rw [q5]
      refine stepInY ho3 q9 (wp_skip' (r3 _ _ ?_ ?_ r4) ?_)
      · rw [put_get (by rw [put_size]; exact hea), if_pos rfl]
      · rw [eval_put (fun q hq => (n4 q hq).1), eval_put (fun q hq => (n4 q hq).2)]
      rw [q8]
      have hrel := apx_frame (v2 := v2) r7 r9 hda hea
      refine sim_opsY hY hk hyi fuel (l := l') (k := k + 1 + 1 + 1) (m := m) (by simp at hfu; omega) (fun j => ?_) h3 ⟨hrel, p.df.good r8, by simpa [Act.put] using p.sz⟩ (hk.run _ _ _ _ _ _ _ ho r8 (hk.pre _ _ _ _ ho)) r10 hQ
      have := hl (j + 3)
      rw [show k + 1 + 1 + 1 + j = k + (j + 3) by omega, this]; rfl

end
end Go.Vm
end

section
/- Ranges over functions: the iterator's code, and the law of the statement. Conditions: none. -/
namespace Go.Vm

section
variable {P : Program} {gl : Nat → List D} {n0 nt : Nat} {a : Act} {w w' w0 : World} {G G' G0 : Gh} {ρ ρ' ρ0 : List Nat} {lam lam' : Nat → Option Nat} {st st' : St} {o : Oper} {Q : Exit → Act → World → Prop}
variable {O : Option Ex → World → Gh → List Nat → Prop} {Y : Yd Prop} {yi lb : Nat}

theorem pre_len {l l' : List Nat} (h : ∀ i b : Nat, l[i]? = some b → l'[i]? = some b) : l.length ≤ l'.length := by
  rcases Nat.eq_zero_or_pos l.length with h0 | h0
  · omega
  · have hlast : l[l.length - 1]? = some (l[l.length - 1]'(by omega)) := List.getElem?_eq_getElem (by omega)
    have := h _ _ hlast
    rcases Nat.lt_or_ge (l.length - 1) l'.length with h | h
    · omega
    · rw [List.getElem?_eq_none h] at this; simp at this

/-- What is forgotten takes nothing from what is kept. -/
theorem Keep.forget (hk : Keep O ρ0 lb) {p : Option Ex} {n : Nat} (ho : O p w G ρ) (hlt : ∀ b L n, G b = some (L, n) → b < w.heap.size) (hn : ρ0.length ≤ n) {ρ2 : List Nat} (h : ρ2 = ρ ∨ ρ2 = ρ.take n) : O p w G ρ2 := by
  refine hk.run _ _ _ _ _ _ _ ho (Good.refl hlt) fun i b hi => ?_
  have h1 := hk.pre _ _ _ _ ho i b hi
  rcases h with rfl | rfl
  · exact h1
  · refine take_get ?_ h1
    rcases Nat.lt_or_ge i ρ0.length with h | h
    · omega
    · rw [List.getElem?_eq_none h] at hi; simp at hi

theorem loop_postY {K : Ex → St → Option Ex → Prop} (hk : Keep O ρ0 lb) {ts bs : List Nat} {I : Nat → St → Prop} {n N : Nat} (hN : ρ0.length ≤ N) {e : Exit} {a' : Act} {w' : World}
    (h : PostY n0 gl nt O (fun x st p => match x with | .normal => (AP P gl).guard p.isNone (Vm.forget (AP P gl) N ts bs st (fun st' => ∃ m, m < n ∧ I m st')) | x => K x st p) e a' w') :
    Exit.then (fun a' w' => ∃ m, m < n ∧ ∃ G ρ lam st, Pre n0 gl nt w' G ρ lam a' st ∧ O none w' G ρ ∧ I m st) (PostY n0 gl nt O K) e a' w' := by
  cases e with
  | normal =>
    obtain ⟨e2, G', ρ', lam', st', p', e1, e3, e4, hp, hkk, m, hm, hI⟩ := h
    have hpn : p' = none := by simpa using hp
    subst hpn
    have p : Pre n0 gl nt w' G' ρ' lam' a' st' := ⟨e3, e1, e2⟩
    obtain ⟨ρ2, lam2, p2, hρ⟩ := p.forget (n := N) hkk
    exact ⟨m, hm, G', ρ2, lam2, _, p2, hk.forget e4 e3.lt hN hρ, hI⟩
  | exit i => exact h
  | ret => exact h
  | _ => exact h.elim

theorem seq_postY {n : Nat} {K : Ex → St → Option Ex → Prop} {b : VC} {y : Code} (hy : ∀ {w : World} {G : Gh} {ρ : List Nat} {lam : Nat → Option Nat} {a : Act} {st : St} {pp : Option Ex}, Pre n0 gl nt w G ρ lam a st → O pp w G ρ →
      runY (AP P gl) gl Y yi b st pp K → y.wpIn Fence.wide n P (PostY n0 gl nt O K) a w) {e : Exit} {a' : Act} {w' : World}
    (h : PostY n0 gl nt O (fun x st p => match x with | .normal => runY (AP P gl) gl Y yi b st p K | x => K x st p) e a' w') :
    Exit.then (y.wpIn Fence.wide n P (PostY n0 gl nt O K)) (PostY n0 gl nt O K) e a' w' := by
  cases e with
  | normal =>
    obtain ⟨e2, G', ρ', lam', st', p', e1, e3, e4, e5⟩ := h
    exact hy ⟨e3, e1, e2⟩ e4 e5
  | exit i => exact h
  | ret => exact h
  | _ => exact h.elim

theorem block_postY {K : Ex → St → Option Ex → Prop} {i : Nat} {e : Exit} {a' : Act} {w' : World}
    (h : PostY n0 gl nt O (fun x st p => match x with | .exit j => cond (Nat.beq j i) (K .normal st p) (K (.exit j) st p) | x => K x st p) e a' w') : Exit.inBlock i (PostY n0 gl nt O K) e a' w' := by
  cases e with
  | normal => exact h
  | ret => exact h
  | exit j =>
    obtain ⟨e2, G', ρ', lam', st', p', e1, e3, e4, e6⟩ := h
    simp only at e6
    simp only [Exit.inBlock]
    by_cases hj : j = i
    · subst hj
      simp only [Nat.beq_refl, cond] at e6
      simp only [if_true]
      exact ⟨e2, G', ρ', lam', st', p', e1, e3, e4, e6⟩
    · have : Nat.beq j i = false := by rw [Bool.eq_false_iff]; intro h'; exact hj (Nat.eq_of_beq_eq_true h')
      simp only [this, cond] at e6
      simp only [hj, if_false]
      exact ⟨e2, G', ρ', lam', st', p', e1, e3, e4, e6⟩
  | _ => exact h.elim

/-- An iterator's code. -/
theorem sim_codeY (hany : AnyLaw P gl) {n : Nat} {an : Ann} {m : AMap} (hY : YieldOk P gl O Y lb (n - 1)) (hk : Keep O ρ0 lb) (hyi : ρ0[yi]? = some (lb + 1)) :
    ∀ (c : Code) {l l' : List (List Nat × List Nat)} {vc : VC} {w : World} {G : Gh} {ρ : List Nat} {lam : Nat → Option Nat} {a : Act} {st : St} {pp : Option Ex} {K : Ex → St → Option Ex → Prop},
    compC P an nt m c l = some (vc, l') → Pre n0 gl nt w G ρ lam a st → O pp w G ρ → runY (AP P gl) gl Y yi vc st pp K → c.wpIn Fence.wide n P (PostY n0 gl nt O K) a w := by
  intro c
  induction c with
  | skip =>
    intro l l' vc w G ρ lam a st pp K hc p ho hr
    simp only [compC, Option.some.injEq, Prod.mk.injEq] at hc
    obtain ⟨rfl, rfl⟩ := hc
    exact wpIn_skip (p.afterY ho hr)
  | region id ops dr =>
    intro l l' vc w G ρ lam a st pp K hc p ho hr
    simp only [compC] at hc
    split at hc
    · rename_i is his
      cases dr with
      | true =>
        simp only [if_true] at hc
        split at hc
        · rename_i cf hok
          simp only [Option.some.injEq, Prod.mk.injEq] at hc
          obtain ⟨rfl, rfl⟩ := hc
          refine wpIn_wide.2 (wp_mono (hany (K := fun e st => K e st pp) his hok p hr) fun e a' w' h => ?_)
          cases e with
          | normal => exact after_Y (K := K .normal) hk ho h
          | exit i => exact after_Y (K := K (.exit i)) hk ho h
          | ret => exact after_Y (K := K .ret) hk ho h
          | _ => exact h.elim
        · simp only [Option.some.injEq, Prod.mk.injEq] at hc
          obtain ⟨rfl, rfl⟩ := hc
          exact hr.elim
      | false =>
        simp only [Bool.false_eq_true, if_false, Option.some.injEq, Prod.mk.injEq] at hc
        obtain ⟨rfl, rfl⟩ := hc
        refine wpIn_region ?_
        have : List.range ops.size = List.range' 0 ops.toList.length := by rw [List.range_eq_range', Array.length_toList]
        rw [this]
        exact sim_opsY hY hk hyi _ (Nat.le_refl _) (fun j => by simp) his p ho hr fun a' w' h => h
    · simp at hc
  | seq x y ihx ihy =>
    intro l l' vc w G ρ lam a st pp K hc p ho hr
    simp only [compC] at hc
    split at hc
    · rename_i vx l1 hx
      split at hc
      · rename_i vy l2 hy
        simp only [Option.some.injEq, Prod.mk.injEq] at hc
        obtain ⟨rfl, rfl⟩ := hc
        refine wpIn_seq (wpIn_mono (ihx hx p ho hr) fun e a w h => ?_)
        exact seq_postY (fun p ho hr => ihy hy p ho hr) h
      · simp at hc
    · simp at hc
  | cond c x y ihx ihy =>
    intro l l' vc w G ρ lam a st pp K hc p ho hr
    simp only [compC] at hc
    split at hc
    · rename_i vx co l1 hoo hx
      split at hc
      · rename_i vy l2 hy
        simp only [Option.some.injEq, Prod.mk.injEq] at hc
        obtain ⟨rfl, rfl⟩ := hc
        simp only [runY] at hr
        obtain ⟨L, hT⟩ := ev_any hoo p.rel
        split at hr
        · rename_i t ht
          rw [ht] at hT
          cases t with
          | true => exact wpIn_cond_true hT.bool (ihx hx p ho hr)
          | false => exact wpIn_cond_false hT.bool (ihy hy p ho hr)
        · exact hr.elim
      · simp at hc
    · simp at hc
  | block i b ih =>
    intro l l' vc w G ρ lam a st pp K hc p ho hr
    simp only [compC] at hc
    split at hc
    · rename_i vb l1 hb
      simp only [Option.some.injEq, Prod.mk.injEq] at hc
      obtain ⟨rfl, rfl⟩ := hc
      exact wpIn_block (wpIn_mono (ih hb p ho hr) fun e a w h => block_postY h)
    · simp at hc
  | loop b ih =>
    intro l l' vc w G ρ lam a st pp K hc p ho hr
    cases l with
    | nil => simp [compC] at hc
    | cons q l =>
      obtain ⟨ts, bs⟩ := q
      simp only [compC] at hc
      split at hc
      · rename_i vb l1 hb
        simp only [Option.some.injEq, Prod.mk.injEq] at hc
        obtain ⟨rfl, rfl⟩ := hc
        simp only [runY] at hr
        obtain ⟨hp, hkk, I, n, h0, hround⟩ := hr
        have hpn : pp = none := by simpa using hp
        subst hpn
        obtain ⟨ρ2, lam2, p2, hρ⟩ := p.forget (n := st.s.length) hkk
        have hlen : ∀ {w : World} {G : Gh} {ρ : List Nat} {lam : Nat → Option Nat} {a : Act} {st : St}, Pre n0 gl nt w G ρ lam a st → O none w G ρ → ρ0.length ≤ st.s.length := fun p ho => by
          rw [← p.rel.ob.1]; exact pre_len (hk.pre _ _ _ _ ho)
        refine wpIn_wide.2 (wp_loop_ghost (fun n a w => ∃ G ρ lam st, Pre n0 gl nt w G ρ lam a st ∧ O none w G ρ ∧ I n st) n ⟨G, ρ2, lam2, _, p2, hk.forget ho p.rel.lt (hlen p ho) hρ, h0⟩ ?_)
        rintro n1 a1 w1 ⟨G1, ρ1, lam1, st1, p1, f1, hI⟩
        refine wp_mono (wpIn_wide.1 (ih hb p1 f1 (hround n1 st1 hI))) fun e a' w' h => ?_
        exact loop_postY hk (hlen p1 f1) h
      · simp at hc
  | exit i =>
    intro l l' vc w G ρ lam a st pp K hc p ho hr
    simp only [compC, Option.some.injEq, Prod.mk.injEq] at hc
    obtain ⟨rfl, rfl⟩ := hc
    exact wpIn_exit (p.afterY ho hr)
  | ret =>
    intro l l' vc w G ρ lam a st pp K hc p ho hr
    simp only [compC, Option.some.injEq, Prod.mk.injEq] at hc
    obtain ⟨rfl, rfl⟩ := hc
    exact wpIn_ret (p.afterY ho hr)
  | rangeFunc g ps x y _ _ =>
    intro l l' vc w G ρ lam a st pp K hc p ho hr
    simp only [compC] at hc
    split at hc
    · simp only [Option.ite_none_right_eq_some, Option.some.injEq, Prod.mk.injEq] at hc
      obtain ⟨_, rfl, _⟩ := hc
      exact hr.elim
    · simp at hc
  | scope _ => intro l l' vc w G ρ lam a st pp K hc; simp [compC] at hc
  | label _ => intro l l' vc w G ρ lam a st pp K hc; simp [compC] at hc
  | goto _ => intro l l' vc w G ρ lam a st pp K hc; simp [compC] at hc
  | refuse _ =>
    intro l l' vc w G ρ lam a st pp K hc p ho hr
    simp only [compC, Option.some.injEq, Prod.mk.injEq] at hc
    obtain ⟨rfl, rfl⟩ := hc
    exact hr.elim

end
end Go.Vm
end

section
/- Ranges over functions: the law of the statement. Conditions: none. -/
namespace Go.Vm

section
variable {P : Program} {gl : Nat → List D} {n0 nt : Nat} {a : Act} {w w' w0 : World} {G G' G0 : Gh} {ρ ρ' ρ0 : List Nat} {lam lam' : Nat → Option Nat} {st st' : St} {o : Oper} {Q : Exit → Act → World → Prop}

def RecOk (r0 : Loop) (p : Option Ex) (r : Loop) : Prop :=
  ∃ c : Option Code, r = { r0 with state := if c.isNone then .ready else .done, pending := c } ∧ (∀ j, c = some j → (jumpEx j).isSome = true) ∧ p = c.bind jumpEx

theorem RecOk.none {r0 r : Loop} (h1 : r0.state = .ready) (h2 : r0.pending = none) (h : RecOk r0 none r) : r = r0 := by
  obtain ⟨c, rfl, hj, hp⟩ := h
  cases c with
  | none => cases r0; simp only at h1 h2; subst h1 h2; rfl
  | some j =>
    have := hj j rfl
    simp only [Option.bind_some] at hp
    rw [← hp] at this
    simp at this

/-- What is kept of the function that ranges. -/
def Kept (w0 : World) (G0 : Gh) (ρ0 : List Nat) (a : Act) (tm0 : Nat → Val) (r0 : Loop) (p : Option Ex) (W : World) (G : Gh) (ρ : List Nat) : Prop :=
  (∃ r, RecOk r0 p r ∧ Still w0 G0 ρ0 a tm0 r W G ρ) ∧ ∀ i b : Nat, (ρ0 ++ [w0.heap.size + 1 + 1])[i]? = some b → ρ[i]? = some b

theorem kept_keep {tm0 : Nat → Val} {r0 : Loop} : Keep (Kept w0 G0 ρ0 a tm0 r0) (ρ0 ++ [w0.heap.size + 1 + 1]) (w0.heap.size + 1) where
  run p W G ρ W' G' ρ' h hg hp := by
    obtain ⟨⟨r, h1, h2⟩, _⟩ := h
    exact ⟨⟨r, h1, h2.run hg fun i b hi => hp i b (pre_app i _ hi)⟩, hp⟩
  pre p W G ρ h := h.2
  rcd p W G ρ h := by obtain ⟨⟨r, h1, h2⟩, _⟩ := h; exact ⟨r, h2.rcd⟩

theorem zip_setV (ps : List Nat) (vs : List Value) (tmps : Array Value) :
    (((⟨ps⟩ : Array Tmp).zip (⟨vs⟩ : Array Value)).foldl (fun tmps (x : Tmp × Value) => match x with | (t, a) => tmps.setIfInBounds t a) tmps) = setV tmps ps vs := setV_fold ps vs tmps

/-- The rounds keep their word. -/
theorem rounds_ok {an : Ann} {m : AMap} {x y : Code} {l1 l2 l3 l4 : List (List Nat × List Nat)} {va vb : VC} (ha : compC P an nt m x l1 = some (va, l2)) (hb : compC P an nt m y l3 = some (vb, l4)) (hpa : plainV va = true) (hpb : plainV vb = true)
    {r0 : Loop} {st0 : St} (hbx : st0.bx = fun _ => none) (hst : r0.state = .ready) (hpend : r0.pending = none) (ht : r0.tmps = a.tmps) {ps : List Nat} (hps0 : r0.params = ⟨ps⟩) (hx : r0.assign = x) (hy : r0.body = y) (hps : ∀ p, p ∈ ps → p < a.tmps.size) (hsz : nt ≤ a.tmps.size) (n : Nat) :
    YieldOk P gl (Kept w0 G0 ρ0 a st0.tm r0) (roundY (AP P gl) (run (AP P gl) gl va) (run (AP P gl) gl vb) ps st0) (w0.heap.size + 1) n := by
  intro W G ρ s vs xs KB hk hw hrel hY
  obtain ⟨⟨r, hr, hst'⟩, hpre⟩ := hk
  obtain rfl := hr.none hst hpend
  have hlen : xs.length = ps.length := by
    have := hY.1
    exact Nat.eq_of_beq_eq_true this
  have hlen' : vs.length = ps.length := hrel.length.trans hlen
  refine ⟨r.fn, _, r.assign, r.body, run_yield hst'.rcd (by rw [hps0]; simpa using hlen'), ?_⟩
  have hY' : roundY (AP P gl) (run (AP P gl) gl va) (run (AP P gl) gl vb) ps ⟨st0.tm, fun _ => none, s⟩ xs s KB := by
    unfold roundY at hY ⊢
    rw [hbx] at hY
    exact hY
  have := round_sim (n := n) (f := r.fn) ha hb hpa hpb hst hpend hst' hw hps hsz hrel hY'
  rw [hps0, ht, hx, hy, zip_setV]
  refine this.mono ?_
  rintro e W' ⟨c, G', ρ', s', rfl, h1, h2, h3, h4, h5, h6, h7⟩
  refine ⟨c.bind jumpEx, G', ρ', s', ?_, ⟨⟨_, ⟨c, rfl, h1, rfl⟩, h2⟩, fun i b hi => h6 i b (hpre i b hi)⟩, h3, h4, h5, h6, h7⟩
  cases c with
  | none => rfl
  | some j =>
    have := h1 j rfl
    simp only [Option.bind_some, Option.isNone_some]
    cases hj : jumpEx j with
    | none => rw [hj] at this; simp at this
    | some _ => rfl

/-- The iterator leaves, with marks. -/
theorem leaves_marksY {tm0 : Nat → Val} {r : Loop} {a0 : Act} {fn : Func} {tmps : Array Value} {R : Ending → World → Prop} : ∀ (Ds : List Nat) {w : World}, RelS gl w G ρ lam tmps st → Still w0 G0 ρ0 a0 tm0 r w G ρ → Marks (w0.heap.size + 2) w G (Ds.map mark) →
    (∀ w, RelS gl w G ρ lam tmps st → Still w0 G0 ρ0 a0 tm0 r w G ρ → ∃ v, (results fn tmps).run P w = .ok v w ∧ R (.returned v) w) → LeavesInM Fence.wide 0 P fn tmps R (Ds.map mark) .returning w
  | [], w, p, g, _, h => h w p g
  | D :: Ds, w, p, g, hm, h => by
    obtain ⟨h1, h2, h3, h4, h5⟩ := hm.tail
    refine ⟨by simp, .inl ⟨D, w.putObj D (.deferred none), rfl, run_takeDeferred h3, ?_⟩⟩
    refine leaves_marksY Ds (p.putObj h3 rfl h4) ?_ ?_ h
    · exact ⟨fun t => (g.tm t).keep (put_keeps h3 rfl) fun _ _ h => h, ⟨g.far.good.putObj h3 rfl (by omega), g.far.pre⟩, (World.putObj_heap_other (by omega)).trans g.rcd, g.rcdG, (World.putObj_heap_other (by omega)).trans g.blk, g.blkG⟩
    obtain ⟨Es, e1, e2, e3⟩ := h5
    refine ⟨Es, e1, e2, fun E hE => ?_⟩
    obtain ⟨f1, f2, f3⟩ := e3 E hE
    have hne : E ≠ D := by
      intro e
      subst e
      have hEs : mark E ∈ Ds.map mark := by rw [e1]; exact List.mem_map_of_mem hE
      obtain ⟨x, hx, he⟩ := List.mem_map.1 hEs
      simp only [mark, Deferred.mk.injEq, Target.collected.injEq, and_true] at he
      exact h1 (he ▸ hx)
    exact ⟨f1, (World.putObj_heap_other hne).trans f2, f3⟩

theorem range_sim (hany : AnyLaw P gl) {an : Ann} {m : AMap} {f : Operand} {ps : List Nat} {x y : Code} {l1 l2 l3 l4 : List (List Nat × List Nat)} {va vb : VC} {K : Ex → St → Prop}
    (ha : compC P an nt m x l1 = some (va, l2)) (hb : compC P an nt m y l3 = some (vb, l4)) (hpa : plainV va = true) (hpb : plainV vb = true)
    (hps : ∀ p, p ∈ ps → p < a.tmps.size) (p : Pre n0 gl nt w G ρ lam a st) (hn : n0 ≤ w.heap.size) {g : Nat} {cs : List Value} {caps : List Val} (hf : a.eval f = .func (.func g) #[] ⟨cs⟩) (hcs : RelL w G ρ cs caps)
    (hr : iterY (AP P gl) gl (run (AP P gl) gl va) (run (AP P gl) gl vb) ps g caps st K) : (Code.rangeFunc f ⟨ps⟩ x y).wp P (Post n0 gl nt w G ρ K) a w := by
  obtain ⟨vf, ⟨fnn, an2, hfn, hname, hcf⟩, hres, hr⟩ := hr
  have hcall : Callable P g := by
    unfold compF at hcf
    simp only [Option.bind_eq_bind, Option.bind_eq_some_iff] at hcf
    obtain ⟨c, hb, _⟩ := hcf
    exact ⟨fnn, hfn, by rw [hb]; rfl, hname⟩
  refine (wpIn_wide (n := 1)).1 (wpIn_rangeFunc fun fn _ => ?_)
  obtain ⟨r, hrd⟩ : ∃ r : Loop, r = { state := .ready, pending := none, fn, tmps := a.tmps, params := ⟨ps⟩, assign := x, body := y, defers := w.heap.size } := ⟨_, rfl⟩
  obtain ⟨W1, hW1⟩ : ∃ W1, W1 = (w.alloc (.deferred (some []))).alloc (.loop r) := ⟨_, rfl⟩
  have lt1 : ∀ b L n, G b = some (L, n) → b < (w.alloc (.deferred (some []))).heap.size := fun b L n h => by rw [World.size_alloc]; have := p.rel.lt b L n h; omega
  have k2 : Keeps w G W1 G := by rw [hW1]; exact (alloc_keeps (w := w) (G := G) (.deferred (some []))).trans (alloc_keeps (w := w.alloc (.deferred (some []))) (G := G) (.loop r))
  have g1 : Good w G W1 G := by rw [hW1]; exact (alloc_good (w := w) (.deferred (some [])) p.rel.lt).trans (alloc_good (w := w.alloc (.deferred (some []))) (.loop r) lt1)
  have s1 : ∀ L, SameL L L w G W1 G := fun L b n hb => by
    rw [hW1]
    exact ⟨(alloc_same (w := w.alloc (.deferred (some []))) (.loop r) lt1 L b n hb).1.trans (alloc_same (w := w) (.deferred (some [])) p.rel.lt L b n hb).1, hb⟩
  have hsz1 : W1.heap.size = w.heap.size + 2 := by rw [hW1, World.size_alloc, World.size_alloc]
  have hGn : ∀ b, w.heap.size ≤ b → G b = none := by
    intro b hb
    cases hg : G b with
    | none => rfl
    | some q => exact absurd (p.rel.lt b q.1 q.2 hg) (Nat.not_lt.2 hb)
  have still : Still w G ρ a st.cool.tm r W1 G ρ := by
    refine ⟨fun t => (cool_rel (p.rel.tm t)).keep k2 fun _ _ h => h, ⟨g1, fun _ _ h => h⟩, ?_, hGn _ (by omega), ?_, hGn _ (Nat.le_refl _)⟩
    · have := World.alloc_heap_new (w.alloc (.deferred (some []))) (.loop r)
      rw [World.size_alloc] at this
      rw [hW1]; exact this
    · rw [hW1, Go.RowKit.Below.heap_alloc _ _ _ (by rw [World.size_alloc]; omega)]
      exact World.alloc_heap_new w _
  have hlt1 : ∀ b L n, G b = some (L, n) → b < W1.heap.size := fun b L n h => by rw [hsz1]; have := p.rel.lt b L n h; omega
  refine ⟨w.heap.size + 1, [mark w.heap.size], W1, { target := .fn (.func g) ⟨cs⟩, args := #[.func (.yield (w.heap.size + 1)) #[] #[]] }, W1, g, ⟨.func (.yield (w.heap.size + 1)) #[] #[] :: cs⟩, W1, ?_, ?_, fun _ _ => trivial, ?_, fun h => by simp [Fence.wide] at h, ?_⟩
  · rw [hW1, hrd]; exact run_enterLoop_outer _ _ _ _ _
  · simp only [resolve, hf]
    simp [go_sem]
  · simp only [invoke]
    rw [callFunc_run hcall]
    congr 2
    apply Array.ext'; simp
  · -- the iterator's call
    unfold compF at hcf
    simp only [Option.bind_eq_bind, Option.bind_eq_some_iff] at hcf
    obtain ⟨c, hb2, ⟨vc, l'⟩, hcc, rs, hrs, hvf⟩ := hcf
    simp only [Option.some.injEq] at hvf
    subst hvf
    simp only [List.isEmpty_iff] at hres
    subst hres
    refine callsIn_of_wp_marks (n := 0) hfn hb2 trivial ?_
    have hob1 : RelObs W1 G (ρ ++ [w.heap.size + 1 + 1]) (st.s ++ [.dead]) := by
      have h0 := p.rel.ob.tr (w' := W1) (G' := G) k2 (fun i => s1 _) (fun i j => s1 _)
      refine ⟨by simp [h0.1], fun i b o hb ho => ?_⟩
      rcases Nat.lt_or_ge i st.s.length with hi | hi
      · rw [List.getElem?_append_left hi] at ho
        rw [List.getElem?_append_left (by rw [h0.1]; exact hi)] at hb
        exact (h0.2 i b o hb ho).tr (Keeps.refl _ _) (fun i b h => pre_app i _ h) (fun _ _ h => ⟨rfl, h⟩) (fun _ _ _ h => ⟨rfl, h⟩)
      · rw [List.getElem?_append_right hi] at ho
        have : i - st.s.length = 0 := by
          rcases Nat.eq_zero_or_pos (i - st.s.length) with h | h
          · exact h
          · rw [List.getElem?_eq_none (by simp; omega)] at ho; simp at ho
        rw [this] at ho
        simp at ho
        subst ho
        trivial
    have hval : RelL W1 G (ρ ++ [w.heap.size + 1 + 1]) (.func (.yield (w.heap.size + 1)) #[] #[] :: cs) (.yl st.s.length :: caps) := by
      refine .cons _ _ _ _ (.yl _ _ ?_) (hcs.keep k2 (fun i b h => pre_app i _ h))
      rw [← p.rel.ob.1]; simp
    have pI : Pre (w.heap.size + 2) gl fnn.ntmps W1 G (ρ ++ [w.heap.size + 1 + 1]) (fun _ => none)
        { tmps := (⟨.func (.yield (w.heap.size + 1)) #[] #[] :: cs⟩ : Array Value) ++ Array.replicate (fnn.ntmps - (⟨.func (.yield (w.heap.size + 1)) #[] #[] :: cs⟩ : Array Value).size) undef, defers := [] }
        { tm := initT (.yl st.s.length :: caps) 0, bx := fun _ => none, s := st.s ++ [.dead] } := by
      refine ⟨⟨?_, fun t cs h => by simp at h, fun _ _ => rfl, hob1, p.rel.gb.tr k2, hlt1⟩, .nil, ?_⟩
      · intro t
        have h1 := init_rel (n := 0) (t := t) hval (Nat.zero_le _)
        have h2 : (((⟨.func (.yield (w.heap.size + 1)) #[] #[] :: cs⟩ : Array Value) ++ Array.replicate (fnn.ntmps - (⟨.func (.yield (w.heap.size + 1)) #[] #[] :: cs⟩ : Array Value).size) undef).getD t undef) = ((Value.func (.yield (w.heap.size + 1)) #[] #[] :: cs)[t - 0]?).getD undef := by
          rw [Array.getD_eq_getD_getElem?, Array.getElem?_append, Nat.sub_zero]
          split
          · simp
          · rename_i ht
            have ht : (Value.func (.yield (w.heap.size + 1)) #[] #[] :: cs).length ≤ t := by simpa using ht
            rw [List.getElem?_eq_none ht, Array.getElem?_replicate]
            split <;> rfl
        rw [h2]
        exact .of_A h1
      · simp only [Array.size_append, Array.size_replicate]; omega
    have hO : Kept w G ρ a st.cool.tm r none W1 G (ρ ++ [w.heap.size + 1 + 1]) := by
      refine ⟨⟨r, ⟨none, by rw [hrd]; rfl, fun j hj => by simp at hj, rfl⟩, ⟨still.tm, ⟨still.far.good, pre_app⟩, still.rcd, still.rcdG, still.blk, still.blkG⟩⟩, fun _ _ h => h⟩
    have hyi : (ρ ++ [w.heap.size + 1 + 1])[st.s.length]? = some (w.heap.size + 1 + 1) := by rw [← p.rel.ob.1]; simp
    have hYok := rounds_ok (w0 := w) (G0 := G) (ρ0 := ρ) (gl := gl) (a := a) ha hb hpa hpb (r0 := r) (st0 := st.cool) rfl (by rw [hrd]) (by rw [hrd]) (by rw [hrd]) (ps := ps) (by rw [hrd]) (by rw [hrd]) (by rw [hrd]) hps p.sz 0
    refine wpIn_mono (sim_codeY (n := 0) hany hYok kept_keep hyi c hcc pI hO hr) ?_
    have fin : ∀ {e : Exit} {a' : Act} {W' : World} (pp : Option Ex → Ex), (∀ p, pp p = p.getD .normal) → AfterY (w.heap.size + 2) gl fnn.ntmps (Kept w G ρ a st.cool.tm r) (fun stY p => K (pp p) { st.cool with s := stY.s }) a' W' →
        LeavesInM Fence.wide 0 P fnn a'.tmps (rangePost Fence.wide 1 P (w.heap.size + 1) (Post n0 gl nt w G ρ K) { a with defers := [mark w.heap.size] ++ a.defers }) a'.defers .returning W' := by
      intro e a' W' pp hpp h
      obtain ⟨q2, G', ρ', lam', st', p', q1, q3, ⟨⟨r1, hr1, q4⟩, q5⟩, q6⟩ := h
      obtain ⟨Ds, hDs, _, _⟩ := id q1
      rw [hDs] at q1 ⊢
      refine leaves_marksY Ds q3 q4 q1 fun W2 t3 t4 => ?_
      refine ⟨.tuple #[], ?_, ?_⟩
      · have hl : fnn.results.toList = [] := by
          unfold compRs at hrs
          split at hrs
          · simp at hrs
          · simp at hrs
          · have := mapM_all2 hrs
            generalize fnn.results.toList = l at this
            cases this; rfl
        rw [results_run, hl]
        simp only [List.mapM_nil, Sem.run_pure, Result.andThen_ok]
      · obtain ⟨c, hc1, hc2, hc3⟩ := hr1
        have after : ∀ (KK : St → Prop), KK { st.cool with s := st'.s } → After n0 gl nt w G ρ KK { a with defers := [mark w.heap.size] ++ a.defers } (W2.putObj (w.heap.size + 1) (.loop { r1 with state := .exhausted, pending := c })) := by
          intro KK hk
          have h2 := t4.put { r1 with state := .exhausted, pending := c }
          have h3 := t4.putW t3.wd { r1 with state := .exhausted, pending := c }
          refine ⟨p.sz, G', ρ', fun _ => none, _, ?_, h2.rel h3, h2.far.good, h2.far.pre, hk⟩
          obtain ⟨Es, d1, d2, d3⟩ := p.df
          refine ⟨w.heap.size :: Es, by simp [d1], List.nodup_cons.2 ⟨fun hm => ?_, d2⟩, fun D hD => ?_⟩
          · have := (Array.getElem?_eq_some_iff.1 (d3 _ hm).2.1).1
            omega
          · rcases List.mem_cons.1 hD with rfl | hD
            · exact ⟨hn, h2.blk, h2.blkG⟩
            · obtain ⟨f1, f2, f3⟩ := d3 D hD
              have hlt := (Array.getElem?_eq_some_iff.1 f2).1
              obtain ⟨i1, i2⟩ := h2.far.good.imm D hlt (.inl f3)
              exact ⟨f1, i1.trans f2, i2.trans f3⟩
        rw [hpp] at q6
        have hbusy : r1.state ≠ .busy := by rw [hc1]; dsimp only; split <;> simp
        have hend := run_endLoop (P := P) t4.rcd hbusy
        have hpend : r1.pending = c := by rw [hc1]
        rw [hpend] at hend
        refine ⟨c, _, hend, ?_⟩
        cases c with
        | none =>
          simp only [Option.bind_none] at hc3
          subst hc3
          exact after (K .normal) q6
        | some j =>
          simp only [Option.bind_some] at hc3
          subst hc3
          have := hc2 j rfl
          cases j <;> simp only [jumpEx, Option.isSome_none, Bool.false_eq_true, Option.isSome_some] at this
          · exact wpIn_exit (after _ q6)
          · exact wpIn_ret (after _ q6)
    intro e a' W' h
    cases e with
    | normal => exact fin (e := .normal) (fun p => p.getD .normal) (fun _ => rfl) h
    | ret => exact fin (e := .ret) (fun p => p.getD .normal) (fun _ => rfl) h
    | exit i => obtain ⟨_, _, _, _, _, _, _, _, _, h⟩ := h; exact h.elim
    | _ => exact h.elim

theorem rangeLaw (hany : AnyLaw P gl) : RangeLaw P gl := by
  intro n0 nt an m f ps x y l l' vc w G ρ lam a st K hc p hn hr
  simp only [compC] at hc
  split at hc
  · rename_i fo va l2 vb l3 hfo ha hb
    simp only [Option.ite_none_right_eq_some, Option.some.injEq, Prod.mk.injEq, Bool.and_eq_true] at hc
    obtain ⟨⟨⟨hpa, hpb⟩, hps⟩, rfl, rfl⟩ := hc
    obtain ⟨ps⟩ := ps
    have hps' : ∀ p, p ∈ ps → p < a.tmps.size := fun q hq => Nat.lt_of_lt_of_le (by simpa [Nat.blt_eq] using List.all_eq_true.1 hps q hq) p.sz
    simp only [run] at hr
    obtain ⟨L, hT⟩ := ev_any hfo p.rel
    split at hr
    · rename_i g caps he
      rw [he] at hT
      have hA : RelA w G ρ (a.eval f) (.func g [] caps) := hT
      generalize hfv : a.eval f = fv at hA
      cases hA with
      | func _ ars cs _ _ ras rcs =>
        cases ras
        exact range_sim hany ha hb hpa hpb hps' p hn hfv rcs hr
    · rename_i g he
      rw [he] at hT
      have hA : RelA w G ρ (a.eval f) (.d (.fn g)) := hT
      generalize hfv : a.eval f = fv at hA
      cases hA with
      | d _ _ h =>
        cases h
        exact range_sim hany ha hb hpa hpb hps' p hn hfv .nil hr
    · exact hr.elim
  · simp at hc

end
end Go.Vm
end

section
/- Concrete runs: the machine as a function. Conditions: none. -/
set_option linter.unusedSimpArgs false
namespace Go.Vm

abbrev Out := Option (Val × Store)

def loopN : Nat → (St → (St → Out) → Out) → St → Out
  | 0, _, _ => none
  | n + 1, F, st => F st fun st' => loopN n F st'

/-- Are two values surely one? -/
def eqW : Nat → Val → Val → Bool
  | n + 1, .tuple a, .tuple b => Nat.beq a.length b.length && (a.zip b).all fun p => eqW n p.1 p.2
  | n + 1, .agg a, .agg b => Nat.beq a.length b.length && (a.zip b).all fun p => eqW n p.1 p.2
  | _, a, b => eqV a b

def eqOb : Ob → Ob → Bool
  | .box a, .box b => Nat.beq a.length b.length && (a.zip b).all fun p => eqW depth p.1 p.2
  | .map a, .map b => Nat.beq a.length b.length && (a.zip b).all fun p => eqD p.1.1 p.2.1 && eqW depth p.1.2 p.2.2
  | .dead, .dead => true
  | .bld t e b, .bld t' e' b' => Nat.beq t t' && Nat.beq e e' && decide (b = b')
  | .itr a, .itr b => decide (a = b)
  | _, _ => false

def eqOut (a b : Val × Store) : Bool := eqW depth a.1 b.1 && Nat.beq a.2.length b.2.length && (a.2.zip b.2).all fun p => eqOb p.1 p.2

theorem zip_eq {α : Type} {f : α → α → Bool} (hf : ∀ a b, f a b = true → a = b) : ∀ {l m : List α}, (Nat.beq l.length m.length && (l.zip m).all fun p => f p.1 p.2) = true → l = m
  | [], [], _ => rfl
  | [], _ :: _, h => by simp at h
  | _ :: _, [], h => by simp at h
  | a :: l, b :: m, h => by
    simp only [Bool.and_eq_true, List.zip_cons_cons, List.all_cons] at h
    rw [hf a b h.2.1, zip_eq hf (l := l) (m := m) (by simp only [Bool.and_eq_true]; exact ⟨by have := Nat.eq_of_beq_eq_true h.1; simp at this; simp [this], h.2.2⟩)]

theorem eqW_eq : ∀ (n : Nat) (a b : Val), eqW n a b = true → a = b
  | 0, a, b, h => eqV_eq (by unfold eqW at h; exact h)
  | n + 1, a, b, h => by
    cases a <;> cases b <;> simp only [eqW] at h <;> first
      | exact congrArg _ (zip_eq (eqW_eq n) h)
      | exact eqV_eq h

theorem eqOb_eq (a b : Ob) (h : eqOb a b = true) : a = b := by
  unfold eqOb at h
  split at h
  · rw [zip_eq (eqW_eq depth) h]
  · refine congrArg _ (zip_eq (f := fun p q => eqD p.1 q.1 && eqW depth p.2 q.2) (fun p q hp => ?_) h)
    simp only [Bool.and_eq_true] at hp
    exact Prod.ext (eqD_eq hp.1) (eqW_eq _ _ _ hp.2)
  · rfl
  · simp only [Bool.and_eq_true, decide_eq_true_eq] at h
    obtain ⟨⟨h1, h2⟩, h3⟩ := h
    rw [Nat.eq_of_beq_eq_true h1, Nat.eq_of_beq_eq_true h2, h3]
  · exact congrArg _ (of_decide_eq_true h)
  · simp at h

theorem eqOut_eq {a b : Val × Store} (h : eqOut a b = true) : a = b := by
  unfold eqOut at h
  rw [Bool.and_assoc, Bool.and_eq_true] at h
  exact Prod.ext (eqW_eq _ _ _ h.1) (zip_eq eqOb_eq h.2)

def evalAlg (tab : Nat → Option VF) (call : Nat → List Val → Store → Out) (fuel : Nat) : Alg Out where
  fail := none
  guard b p := cond b p none
  call f args s K := match call f args s with
    | some (r, s') => K r s'
    | none => none
  fix F st := loopN fuel F st
  both p q := match p, q with
    | some a, some b => cond (eqOut a b) (some a) none
    | _, _ => none
  iter g k := match tab g with
    | some vf => k vf
    | none => none

/-- Which functions are known, as code of the machine. -/
def exec (tab : Nat → Option VF) (gl : Nat → List D) (fuel : Nat) : Nat → Nat → List Val → Store → Out
  | 0, _, _, _ => none
  | n + 1, f, args, s => match tab f with
    | some vf => runF (evalAlg tab (exec tab gl fuel n) fuel) gl vf args s fun r s' => some (r, s')
    | none => none

section
variable {P : Program} {gl : Nat → List D} {tab : Nat → Option VF} {call : Nat → List Val → Store → Out} {fuel : Nat} {x : Val × Store}

theorem Compiled.vev {f : Nat} {vf : VF} {args : List Val} {s s' : Store} {r : Val} (h : Compiled P f vf) (hr : runF (AP P gl) gl vf args s fun r' s'' => r' = r ∧ s'' = s') : VEv P gl f args s r s' := by
  obtain ⟨fn, an, h1, h2, h3⟩ := h
  exact vev_of_run (anyLaw' P gl) (rangeLaw (anyLaw' P gl)) h1 h2 h3 hr

theorem Compiled.of {f : Nat} {vf : VF} (an : Ann) (h1 : (P.funcs[f]?).map (fun fn => fn.name == "runtime.NumGoroutine") = some false) (h2 : (P.funcs[f]?).bind (compF P an) = some vf) : Compiled P f vf := by
  cases hf : P.funcs[f]? with
  | none => rw [hf] at h1; simp at h1
  | some fn =>
    rw [hf] at h1 h2
    exact ⟨fn, an, hf, by simpa using h1, h2⟩

theorem EV_guard (b : Bool) (p : Out) : (evalAlg tab call fuel).guard b p = some x ↔ b = true ∧ p = some x := by
  cases b <;> simp [evalAlg]
theorem EV_both {p q : Out} (h : (evalAlg tab call fuel).both p q = some x) : p = some x ∧ q = some x := by
  simp only [evalAlg] at h
  split at h
  · rename_i a b
    cases hb : eqOut a b with
    | true =>
      rw [hb] at h
      simp only [cond_true, Option.some.injEq] at h
      subst h
      exact ⟨rfl, by rw [← eqOut_eq hb]⟩
    | false => rw [hb] at h; simp at h
  · simp at h

theorem EV_fail : ((evalAlg tab call fuel).fail = some x) = False := by simp [evalAlg]

/-- What is called is so. -/
def CallOk (P : Program) (gl : Nat → List D) (call : Nat → List Val → Store → Out) : Prop := ∀ f args s r s', call f args s = some (r, s') → VEv P gl f args s r s'

theorem callStep_eval (hc : CallOk P gl call) {f : Nat} {args : List Val} {s : Store} {K : Val → Store → Out} {K' : Val → Store → Prop} (hK : ∀ r s, K r s = some x → K' r s) (h : callStep (evalAlg tab call fuel) f args s K = some x) :
    callStep (AP P gl) f args s K' := by
  unfold callStep at h ⊢
  rw [EV_guard] at h
  obtain ⟨h1, h2⟩ := h
  refine ⟨h1, ?_⟩
  have : ∀ {ars : List Val} {s0 : Store} {K0 : Val → Store → Out}, (evalAlg tab call fuel).call f ars s0 K0 = some x → ∃ r s', call f ars s0 = some (r, s') ∧ K0 r s' = some x := by
    intro ars s0 K0 h
    simp only [evalAlg] at h
    split at h
    · exact ⟨_, _, ‹_›, h⟩
    · simp at h
  obtain ⟨r, s', h3, h4⟩ := this h2
  rw [EV_guard] at h4
  exact ⟨r, s', hc _ _ _ _ _ h3, h4.1, hK _ _ h4.2⟩

theorem apStep_eval {nw : Bool} {d s : Nat} {y : O} {sz bnd : Nat} {st : St} {K : St → Out} {K' : St → Prop} (hK : ∀ st, K st = some x → K' st) (h : apStep (evalAlg tab call fuel) gl nw d s y sz bnd st K = some x) : apStep (AP P gl) gl nw d s y sz bnd st K' := by
  unfold apStep at h ⊢
  split at h
  · rename_i sz1 l e
    cases hb : (nw && l.isEmpty) with
    | true =>
      rw [hb] at h
      simp only [cond_true] at h ⊢
      split at h
      · exact hK _ h
      · rw [EV_guard] at h; exact ⟨h.1, hK _ h.2⟩
      · rw [EV_fail] at h; exact h.elim
    | false =>
      rw [hb] at h
      simp only [cond_false] at h ⊢
      split at h
      · rw [EV_guard] at h; exact ⟨h.1, hK _ h.2⟩
      · rw [EV_fail] at h; exact h.elim
  · rename_i i off len cap sz1 e
    split at h
    · rename_i cs us k e1 e2
      rw [EV_guard] at h
      refine ⟨h.1, ?_⟩
      have h2 := h.2
      cases hb : Nat.ble (len + k) cap with
      | true => rw [hb] at h2; simp only [cond_true] at h2 ⊢; rw [EV_guard] at h2; exact ⟨h2.1, hK _ h2.2⟩
      | false => rw [hb] at h2; simp only [cond_false] at h2 ⊢; rw [EV_guard] at h2; exact ⟨h2.1, hK _ h2.2⟩
    · rw [EV_fail] at h; exact h.elim
  · rw [EV_fail] at h; exact h.elim

theorem step_eval (hc : CallOk P gl call) {i : I} {st : St} {K : St → Out} {K' : St → Prop} (hK : ∀ st, K st = some x → K' st) (h : step (evalAlg tab call fuel) gl i st K = some x) : step (AP P gl) gl i st K' := by
  cases i
  case cl d f xs =>
    simp only [step] at h ⊢
    split at h
    · rename_i e; first | exact callStep_eval hc (fun r s h => hK _ h) h | (simp only [e]; exact callStep_eval hc (fun r s h => hK _ h) h)
    · rename_i e; first | exact callStep_eval hc (fun r s h => hK _ h) h | (simp only [e]; exact callStep_eval hc (fun r s h => hK _ h) h)
    · rw [EV_fail] at h; exact h.elim
  case cp d f xs =>
    simp only [step] at h ⊢
    rw [EV_guard] at h
    refine ⟨h.1, ?_⟩
    have h2 := h.2
    simp only [evalAlg] at h2
    split at h2
    · rename_i r s' e
      refine ⟨r, s', hc _ _ _ _ _ e, ?_⟩
      cases hb : (s'.isEmpty && (refs depth r).isEmpty) with
      | true => rw [hb] at h2; exact ⟨hb, hK _ h2⟩
      | false => rw [hb] at h2; simp at h2
    · simp at h2
  case pk d c a b =>
    simp only [step] at h ⊢
    split at h
    · rename_i t e
      try simp only [e]
      cases t <;> exact hK _ h
    · rw [EV_fail] at h; exact h.elim
  case mf d f xs ws =>
    simp only [step] at h ⊢
    split at h
    · exact hK _ h
    · rename_i hn
      rw [EV_guard] at h
      first
        | exact ⟨h.1, hK _ h.2⟩
        | (split
           · exact (hn rfl rfl).elim
           · exact ⟨h.1, hK _ h.2⟩)
  case nq d neg kd y =>
    match kd with
    | 0 =>
      simp only [step] at h ⊢
      split at h
      · rename_i e; first | exact hK _ h | (simp only [e]; exact hK _ h)
      · have hh := EV_both h; exact ⟨hK _ hh.1, hK _ hh.2⟩
      · rw [EV_fail] at h; exact h.elim
    | 1 | 2 | 3 | 4 =>
      simp only [step] at h ⊢
      split at h
      all_goals first
        | (rw [EV_fail] at h; exact h.elim)
        | exact hK _ h
        | (rename_i e; simp only [e]; exact hK _ h)
    | n + 5 => simp only [step] at h; rw [EV_fail] at h; exact h.elim
  case ap d s y sz bnd => exact apStep_eval hK h
  case apn d s y sz bnd => exact apStep_eval hK h
  all_goals (simp only [step] at h)
  all_goals (try simp only [step])
  all_goals (repeat' split at h)
  all_goals first
    | (rw [EV_fail] at h; exact h.elim)
    | exact hK _ h
    | (simp only [AP_guard, *]; exact hK _ h)
    | (rw [EV_guard] at h; exact ⟨h.1, hK _ h.2⟩)
    | (rw [EV_guard] at h; have h1 := h.1; have h2 := hK _ h.2; simp only [AP_guard, and_self, *]; done)
    | (simp only [EV_guard] at h; have h1 := h.1; have h2 := h.2.1; have h3 := hK _ h.2.2; simp only [AP_guard, and_self, *]; done)
    | (rw [EV_guard, EV_fail] at h; exact h.2.elim)

theorem steps_eval (hc : CallOk P gl call) : ∀ {l : List GI} {st : St} {K : St → Out} {K' : St → Prop}, (∀ st, K st = some x → K' st) → steps (evalAlg tab call fuel) gl l st K = some x → steps (AP P gl) gl l st K'
  | [], st, K, K', hK, h => hK _ h
  | ⟨none, i⟩ :: l, st, K, K', hK, h => step_eval hc (fun st h => steps_eval hc hK h) h
  | ⟨some (s, want), i⟩ :: l, st, K, K', hK, h => by
    simp only [steps] at h ⊢
    split at h
    · rename_i b e
      try simp only [e]
      cases hb : cond want b (!b) with
      | true => rw [hb] at h; simp only [cond_true] at h ⊢; exact step_eval hc (fun st h => steps_eval hc hK h) h
      | false => rw [hb] at h; simp only [cond_false] at h ⊢; exact steps_eval hc hK h
    · rename_i e
      try simp only [e]
      exact steps_eval hc hK h
    · rw [EV_fail] at h; exact h.elim

theorem step1_eval (hc : CallOk P gl call) {g : GI} {st : St} {K : St → Out} {K' : St → Prop} (hK : ∀ st, K st = some x → K' st) (h : step1 (evalAlg tab call fuel) gl g st K = some x) : step1 (AP P gl) gl g st K' := by
  unfold step1 at h ⊢
  split at h
  · exact step_eval hc hK h
  · split at h
    · rename_i b e
      cases hb : cond _ b (!b) with
      | true => rw [hb] at h; simp only [cond_true] at h ⊢; exact step_eval hc hK h
      | false => rw [hb] at h; simp only [cond_false] at h ⊢; exact hK _ h
    · exact hK _ h
    · rw [EV_fail] at h; exact h.elim

theorem stepR_eval (hc : CallOk P gl call) {id : Nat} {g : GI} {st : St} {K : St → Out} {K' : St → Prop} (hK : ∀ st, K st = some x → K' st) (h : stepR (evalAlg tab call fuel) gl id g st K = some x) : stepR (AP P gl) gl id g st K' := by
  unfold stepR at h ⊢
  cases ha : isAlloc g.i with
  | true =>
    rw [ha] at h
    simp only [cond_true] at h ⊢
    split at h
    · rw [EV_guard] at h; exact ⟨h.1, hK _ h.2⟩
    · rw [EV_fail] at h; exact h.elim
  | false =>
    rw [ha] at h
    simp only [cond_false] at h ⊢
    exact step1_eval hc hK h

theorem stepsD_eval (hc : CallOk P gl call) : ∀ {l : List GI} {cf : List (List Nat)} {acc : List (GI × Fp)} {id : Nat} {st : St} {K : St → Out} {K' : St → Prop}, (∀ st, K st = some x → K' st) → stepsD (evalAlg tab call fuel) gl l cf acc id st K = some x → stepsD (AP P gl) gl l cf acc id st K'
  | [], _, _, _, _, _, _, hK, h => hK _ h
  | g :: l, cf, acc, id, st, K, K', hK, h => by
    simp only [stepsD] at h ⊢
    refine stepR_eval hc (fun st' h => ?_) h
    rw [EV_guard] at h
    exact ⟨h.1, stepsD_eval hc hK h.2⟩

theorem runAny_eval (hc : CallOk P gl call) {l : List GI} {cf : List (List Nat)} {st : St} {K : St → Out} {K' : St → Prop} (hK : ∀ st, K st = some x → K' st) (h : runAny (evalAlg tab call fuel) gl l cf st K = some x) : runAny (AP P gl) gl l cf st K' := stepsD_eval hc hK h

theorem forget_eval {n : Nat} {ts bs : List Nat} {st : St} {K : St → Out} {K' : St → Prop} (hK : ∀ st, K st = some x → K' st) (h : forget (evalAlg tab call fuel) n ts bs st K = some x) : forget (AP P gl) n ts bs st K' := by
  unfold forget at h ⊢
  rw [EV_guard] at h
  exact ⟨h.1, hK _ h.2⟩

/-- What is known is so. -/
def TabOk (P : Program) (tab : Nat → Option VF) : Prop := ∀ f vf, tab f = some vf → Compiled P f vf

theorem stepY_eval (hc : CallOk P gl call) {Y : Yd Out} {Y' : Yd Prop} (hY : ∀ vs s KB KB', (∀ p s, KB p s = some x → KB' p s) → Y vs s KB = some x → Y' vs s KB') {yi : Nat} {i : I} {st : St} {pp : Option Ex} {K : St → Option Ex → Out} {K' : St → Option Ex → Prop}
    (hK : ∀ st p, K st p = some x → K' st p) (h : stepY (evalAlg tab call fuel) gl Y yi i st pp K = some x) : stepY (AP P gl) gl Y' yi i st pp K' := by
  rcases stepY_cases (gl := gl) (yi := yi) (A := evalAlg tab call fuel) (Y := Y) (i := i) (st := st) (pp := pp) (K := K) with ⟨j, d, f, args, rfl, hf, he⟩ | he
  · rw [he, EV_guard] at h
    simp only [stepY, calledV, hf]
    refine ⟨h.1, ?_⟩
    have h2 := h.2
    unfold yieldY at h2 ⊢
    rw [EV_guard] at h2
    exact ⟨h2.1, hY _ _ _ _ (fun p s hh => hK _ _ hh) h2.2⟩
  · rw [he] at h
    rcases stepY_cases (gl := gl) (yi := yi) (A := AP P gl) (Y := Y') (i := i) (st := st) (pp := pp) (K := K') with ⟨j, d, f, args, rfl, hf, he'⟩ | he'
    · simp only [step, hf] at h
      rw [EV_fail] at h; exact h.elim
    · rw [he']
      exact step_eval hc (fun st hh => hK _ _ hh) h

theorem stepsY_eval (hc : CallOk P gl call) {Y : Yd Out} {Y' : Yd Prop} (hY : ∀ vs s KB KB', (∀ p s, KB p s = some x → KB' p s) → Y vs s KB = some x → Y' vs s KB') {yi : Nat} :
    ∀ {l : List GI} {st : St} {pp : Option Ex} {K : St → Option Ex → Out} {K' : St → Option Ex → Prop}, (∀ st p, K st p = some x → K' st p) → stepsY (evalAlg tab call fuel) gl Y yi l st pp K = some x → stepsY (AP P gl) gl Y' yi l st pp K'
  | [], st, pp, K, K', hK, h => hK _ _ h
  | ⟨none, i⟩ :: l, st, pp, K, K', hK, h => stepY_eval hc hY (fun st p h => stepsY_eval hc hY hK h) h
  | ⟨some (s, want), i⟩ :: l, st, pp, K, K', hK, h => by
    simp only [stepsY] at h ⊢
    split at h
    · rename_i b e
      try simp only [e]
      cases hb : cond want b (!b) with
      | true => rw [hb] at h; simp only [cond_true] at h ⊢; exact stepY_eval hc hY (fun st p h => stepsY_eval hc hY hK h) h
      | false => rw [hb] at h; simp only [cond_false] at h ⊢; exact stepsY_eval hc hY hK h
    · rename_i e
      try simp only [e]
      exact stepsY_eval hc hY hK h
    · rw [EV_fail] at h; exact h.elim

theorem runY_eval (hc : CallOk P gl call) {Y : Yd Out} {Y' : Yd Prop} (hY : ∀ vs s KB KB', (∀ p s, KB p s = some x → KB' p s) → Y vs s KB = some x → Y' vs s KB') {yi : Nat} :
    ∀ {c : VC} {st : St} {pp : Option Ex} {K : Ex → St → Option Ex → Out} {K' : Ex → St → Option Ex → Prop}, (∀ e st p, K e st p = some x → K' e st p) → runY (evalAlg tab call fuel) gl Y yi c st pp K = some x → runY (AP P gl) gl Y' yi c st pp K' := by
  intro c
  induction c with
  | skip => intro st pp K K' hK h; exact hK _ _ _ h
  | ops l => intro st pp K K' hK h; exact stepsY_eval hc hY (fun st p h => hK _ _ _ h) h
  | any l cf => intro st pp K K' hK h; exact runAny_eval hc (fun st h => hK _ _ _ h) h
  | bad => intro st pp K K' hK h; simp only [runY] at h; rw [EV_fail] at h; exact h.elim
  | seq a b iha ihb =>
    intro st pp K K' hK h
    refine iha (fun e st p h => ?_) h
    cases e with
    | normal => exact ihb hK h
    | exit i => exact hK _ _ _ h
    | ret => exact hK _ _ _ h
  | cond c a b iha ihb =>
    intro st pp K K' hK h
    simp only [runY] at h ⊢
    split at h
    · rename_i t e
      try simp only [e]
      cases t with
      | true => exact iha hK h
      | false => exact ihb hK h
    · rw [EV_fail] at h; exact h.elim
  | block i b ih =>
    intro st pp K K' hK h
    refine ih (fun e st p h => ?_) h
    cases e with
    | normal => exact hK _ _ _ h
    | ret => exact hK _ _ _ h
    | exit j =>
      simp only at h ⊢
      cases hb : Nat.beq j i with
      | true => rw [hb] at h; exact hK _ _ _ h
      | false => rw [hb] at h; exact hK _ _ _ h
  | loop ts bs b ih =>
    intro st pp K K' hK h
    simp only [runY] at h ⊢
    rw [EV_guard] at h
    refine ⟨h.1, forget_eval (fun st0 h => ?_) h.2⟩
    refine ⟨fun n st => loopN n (fun st1 rec => runY (evalAlg tab call fuel) gl Y yi b st1 none fun x st p => match x with
      | .normal => (evalAlg tab call fuel).guard p.isNone (forget (evalAlg tab call fuel) st1.s.length ts bs st rec)
      | x => K x st p) st = some x, fuel, h, ?_⟩
    intro n st1 h1
    cases n with
    | zero => simp [loopN] at h1
    | succ n =>
      refine ih (fun e st p h => ?_) h1
      cases e with
      | normal => rw [EV_guard] at h; exact ⟨h.1, forget_eval (fun st h => ⟨n, Nat.lt_succ_self n, h⟩) h.2⟩
      | exit i => exact hK _ _ _ h
      | ret => exact hK _ _ _ h
  | rb y ps a b _ _ => intro st pp K K' hK h; simp only [runY] at h; rw [EV_fail] at h; exact h.elim
  | exit i => intro st pp K K' hK h; exact hK _ _ _ h
  | ret => intro st pp K K' hK h; exact hK _ _ _ h

theorem iterY_eval (hc : CallOk P gl call) (ht : TabOk P tab) {ra rb : St → (Ex → St → Out) → Out} {ra' rb' : St → (Ex → St → Prop) → Prop} (ha : ∀ st K K', (∀ e st, K e st = some x → K' e st) → ra st K = some x → ra' st K')
    (hb : ∀ st K K', (∀ e st, K e st = some x → K' e st) → rb st K = some x → rb' st K') {ps : List Nat} {g : Nat} {caps : List Val} {st : St} {K : Ex → St → Out} {K' : Ex → St → Prop} (hK : ∀ e st, K e st = some x → K' e st)
    (h : iterY (evalAlg tab call fuel) gl ra rb ps g caps st K = some x) : iterY (AP P gl) gl ra' rb' ps g caps st K' := by
  unfold iterY at h ⊢
  simp only [evalAlg] at h
  split at h
  · rename_i vf hvf
    change (evalAlg tab call fuel).guard _ (runY (evalAlg tab call fuel) gl (roundY (evalAlg tab call fuel) ra rb ps st.cool) _ _ _ _ _) = some x at h
    rw [EV_guard] at h
    refine ⟨vf, ht _ _ hvf, h.1, runY_eval hc (fun vs s KB KB' hKB hr => ?_) (fun e st p hh => ?_) h.2⟩
    · unfold roundY at hr ⊢
      rw [EV_guard] at hr
      refine ⟨hr.1, ha _ _ _ (fun e st hh => ?_) hr.2⟩
      cases e with
      | normal =>
        refine hb _ _ _ (fun e st hh => ?_) hh
        cases e with
        | normal => exact hKB _ _ hh
        | exit i => exact hKB _ _ hh
        | ret => exact hKB _ _ hh
      | exit i => rw [EV_fail] at hh; exact hh.elim
      | ret => rw [EV_fail] at hh; exact hh.elim
    · cases e with
      | normal => exact hK _ _ hh
      | ret => exact hK _ _ hh
      | exit i => simp at hh
  · simp at h

theorem run_eval (hc : CallOk P gl call) (ht : TabOk P tab) : ∀ {c : VC} {st : St} {K : Ex → St → Out} {K' : Ex → St → Prop}, (∀ e st, K e st = some x → K' e st) → run (evalAlg tab call fuel) gl c st K = some x → run (AP P gl) gl c st K' := by
  intro c
  induction c with
  | skip => intro st K K' hK h; exact hK _ _ h
  | ops l => intro st K K' hK h; exact steps_eval hc (fun st h => hK _ _ h) h
  | any l cf => intro st K K' hK h; exact runAny_eval hc (fun st h => hK _ _ h) h
  | bad => intro st K K' hK h; simp only [run] at h; rw [EV_fail] at h; exact h.elim
  | seq a b iha ihb =>
    intro st K K' hK h
    refine iha (fun e st h => ?_) h
    cases e with
    | normal => exact ihb hK h
    | exit i => exact hK _ _ h
    | ret => exact hK _ _ h
  | cond c a b iha ihb =>
    intro st K K' hK h
    simp only [run] at h ⊢
    split at h
    · rename_i t e
      try simp only [e]
      cases t with
      | true => exact iha hK h
      | false => exact ihb hK h
    · rw [EV_fail] at h; exact h.elim
  | block i b ih =>
    intro st K K' hK h
    refine ih (fun e st h => ?_) h
    cases e with
    | normal => exact hK _ _ h
    | ret => exact hK _ _ h
    | exit j =>
      simp only at h ⊢
      cases hb : Nat.beq j i with
      | true => rw [hb] at h; exact hK _ _ h
      | false => rw [hb] at h; exact hK _ _ h
  | loop ts bs b ih =>
    intro st K K' hK h
    refine forget_eval (fun st0 h => ?_) h
    refine ⟨fun n st => loopN n (fun st1 rec => run (evalAlg tab call fuel) gl b st1 fun x st => match x with
      | .normal => forget (evalAlg tab call fuel) st1.s.length ts bs st rec
      | x => K x st) st = some x, fuel, h, ?_⟩
    intro n st1 h1
    cases n with
    | zero => simp [loopN] at h1
    | succ n =>
      refine ih (fun e st h => ?_) h1
      cases e with
      | normal => exact forget_eval (fun st h => ⟨n, Nat.lt_succ_self n, h⟩) h
      | exit i => exact hK _ _ h
      | ret => exact hK _ _ h
  | rb y ps a b iha ihb =>
    intro st K K' hK h
    simp only [run] at h ⊢
    split at h
    · exact iterY_eval (ra := run (evalAlg tab call fuel) gl a) (rb := run (evalAlg tab call fuel) gl b) hc ht (fun st K K' hK h => iha hK h) (fun st K K' hK h => ihb hK h) hK h
    · exact iterY_eval (ra := run (evalAlg tab call fuel) gl a) (rb := run (evalAlg tab call fuel) gl b) hc ht (fun st K K' hK h => iha hK h) (fun st K K' hK h => ihb hK h) hK h
    · rw [EV_fail] at h; exact h.elim
  | exit i => intro st K K' hK h; exact hK _ _ h
  | ret => intro st K K' hK h; exact hK _ _ h

theorem runF_eval (hc : CallOk P gl call) (ht : TabOk P tab) {vf : VF} {args : List Val} {s : Store} {K : Val → Store → Out} {K' : Val → Store → Prop} (hK : ∀ r s, K r s = some x → K' r s) (h : runF (evalAlg tab call fuel) gl vf args s K = some x) :
    runF (AP P gl) gl vf args s K' := by
  unfold runF at h ⊢
  refine run_eval hc ht (fun e st h => ?_) h
  have key : ∀ {st : St}, (match resVal st vf.res with
      | some r => (evalAlg tab call fuel).guard (noL depth r) (K r (gc s.length r st.s))
      | none => (evalAlg tab call fuel).fail) = some x → (match resVal st vf.res with
      | some r => (AP P gl).guard (noL depth r) (K' r (gc s.length r st.s))
      | none => (AP P gl).fail) := by
    intro st h
    cases hr : resVal st vf.res with
    | some r => rw [hr] at h; rw [EV_guard] at h; exact ⟨h.1, hK _ _ h.2⟩
    | none => rw [hr] at h; rw [EV_fail] at h; exact h.elim
  cases e with
  | normal => exact key h
  | ret => exact key h
  | exit i => rw [EV_fail] at h; exact h.elim

theorem exec_sound (ht : TabOk P tab) : ∀ n, CallOk P gl (exec tab gl fuel n) := by
  intro n
  induction n with
  | zero => intro f args s r s' h; simp [exec] at h
  | succ n ih =>
    intro f args s r s' h
    simp only [exec] at h
    split at h
    · rename_i vf hv
      refine (ht f vf hv).vev (runF_eval ih ht (fun r0 s0 h0 => ?_) h)
      simp only [Option.some.injEq, Prod.mk.injEq] at h0
      exact h0
    · simp at h

/-- The machine, with functions from outside. -/
def execX (ext : Nat → List Val → Store → Out) (tab : Nat → Option VF) (gl : Nat → List D) (fuel : Nat) : Nat → Nat → List Val → Store → Out
  | 0, _, _, _ => none
  | n + 1, f, args, s => match ext f args s with
    | some r => some r
    | none => match tab f with
      | some vf => runF (evalAlg tab (execX ext tab gl fuel n) fuel) gl vf args s fun r s' => some (r, s')
      | none => none

theorem execX_sound {ext : Nat → List Val → Store → Out} (he : CallOk P gl ext) (ht : TabOk P tab) : ∀ n, CallOk P gl (execX ext tab gl fuel n) := by
  intro n
  induction n with
  | zero => intro f args s r s' h; simp [execX] at h
  | succ n ih =>
    intro f args s r s' h
    simp only [execX] at h
    split at h
    · rename_i q hq
      rw [h] at hq
      exact he _ _ _ _ _ hq
    · split at h
      · rename_i vf hv
        refine (ht f vf hv).vev (runF_eval ih ht (fun r0 s0 h0 => ?_) h)
        simp only [Option.some.injEq, Prod.mk.injEq] at h0
        exact h0
      · simp at h

end
end Go.Vm
end

section
/- The machine's interpreter in a form that the kernel runs fast: each instruction a definition of its own. Printed by genq.py. Conditions: none. -/
namespace Go.Vm
/-- As 'St.set', by the recursor. -/
noncomputable def St.setQ (st : St) (k : Nat) (v : Val) : St := ⟨fun j => @Bool.rec (fun _ => Val) (st.tm j) v (Nat.beq j k), st.bx, st.s⟩

theorem St.setQ_eq (st : St) (k : Nat) (v : Val) : st.setQ k v = st.set k v := by
  unfold St.setQ St.set
  congr 1
  funext j
  simp only [upd]
  cases Nat.beq j k <;> rfl

section
variable {R : Type} (A : Alg R) (gl : Nat → List D)

noncomputable def q_mv (d : Nat) (x : O) (st : St) (K : St → R) : R :=
  K (st.setQ d (snap (ev gl st x)))

noncomputable def q_tk (d : Nat) (s : Nat) (st : St) (K : St → R) : R :=
  K ((st.setQ s .undef).setQ d (st.tm s))

noncomputable def q_asg (d : Nat) (x : O) (st : St) (K : St → R) : R :=
  K ((kill st x).setQ d (ev gl st x))

noncomputable def q_pk (d : Nat) (c : O) (a : O) (b : O) (st : St) (K : St → R) : R :=
  match ev gl st c with
    | .d (.bool t) => cond t (K (st.setQ d (snap (ev gl st a)))) (K (st.setQ d (snap (ev gl st b))))
    | _ => A.fail

noncomputable def q_la (d : Nat) (z : List Val) (st : St) (K : St → R) : R :=
  match st.bx d with
    | none => K ((st.setB d z).setQ d (.lref d 0))
    | some _ => A.fail

noncomputable def q_lb (d : Nat) (x : O) (n : Nat) (st : St) (K : St → R) : R :=
  match st.bx d with
    | none =>
      let cs := cellsOf (snapN (ev gl st x))
      A.guard (Nat.beq cs.length n && cs.all (noL depth)) (K ((st.setB d cs).setQ d (.lref d 0)))
    | some _ => A.fail

noncomputable def q_ha (d : Nat) (z : List Val) (st : St) (K : St → R) : R :=
  K ({ st with s := st.s ++ [Ob.box z] }.setQ d (.ptr st.s.length 0))

noncomputable def q_hb (d : Nat) (x : O) (n : Nat) (st : St) (K : St → R) : R :=
  
    let cs := cellsOf (snapN (ev gl st x))
    A.guard (Nat.beq cs.length n && cs.all (noL depth)) (K ({ st with s := st.s ++ [Ob.box cs] }.setQ d (.ptr st.s.length 0)))

noncomputable def q_bd (d : Nat) (z : List Val) (ps : List (Nat × Nat × O)) (st : St) (K : St → R) : R :=
  match fillP gl st z ps with
    | some cs => K (st.setQ d (.agg cs))
    | none => A.fail

noncomputable def q_li (d : Nat) (sz : Nat) (xs : List O) (st : St) (K : St → R) : R :=
  match elems gl st sz xs with
    | some l => K (st.setQ d (.own sz l))
    | none => A.fail

noncomputable def q_ll (d : Nat) (a : O) (t : Nat) (off : Nat) (n : Nat) (ag : Bool) (st : St) (K : St → R) : R :=
  match ev gl st a, st.bx t with
    | .lref t' off', some cs =>
      A.guard (Nat.beq t' t && Nat.beq off' off && Nat.ble (off + n) cs.length) (K (st.setQ d (valOf cs off n ag)))
    | _, _ => A.fail

noncomputable def q_lt (d : Nat) (a : O) (t : Nat) (off : Nat) (st : St) (K : St → R) : R :=
  match ev gl st a, st.bx t with
    | .lref t' off', some cs =>
      A.guard (Nat.beq t' t && Nat.beq off' off && Nat.blt off cs.length) (K ((st.setB t (cs.set off .undef)).setQ d (cs.getD off .undef)))
    | _, _ => A.fail

noncomputable def q_ls (a : O) (t : Nat) (off : Nat) (x : O) (n : Nat) (st : St) (K : St → R) : R :=
  match ev gl st a, st.bx t with
    | .lref t' off', some cs =>
      let vs := cellsOf (ev gl st x)
      A.guard (Nat.beq t' t && Nat.beq off' off && Nat.beq vs.length n && Nat.ble (off + n) cs.length && vs.all cellOk) (K ((kill st x).setB t (putCells cs off vs)))
    | _, _ => A.fail

noncomputable def q_hl (d : Nat) (a : O) (n : Nat) (ag : Bool) (st : St) (K : St → R) : R :=
  match ev gl st a with
    | .ptr i off => match st.s.getD i .dead with
      | .box cs => A.guard (Nat.ble (off + n) cs.length && (ag || Nat.beq n 1)) (K (st.setQ d (valOf cs off n ag)))
      | _ => A.fail
    | .d (.iptr cs off) => A.guard (Nat.ble (off + n) cs.length) (K (st.setQ d (.d (cond ag (.agg ((cs.drop off).take n)) (cs.getD off .nilp)))))
    | _ => A.fail

noncomputable def q_ht (d : Nat) (a : O) (st : St) (K : St → R) : R :=
  match ev gl st a with
    | .ptr i off => match st.s.getD i .dead with
      | .box cs => A.guard (Nat.blt off cs.length) (K ({ st with s := st.s.set i (.box (cs.set off .undef)) }.setQ d (cs.getD off .undef)))
      | _ => A.fail
    | _ => A.fail

noncomputable def q_hs (a : O) (x : O) (n : Nat) (st : St) (K : St → R) : R :=
  match ev gl st a with
    | .ptr i off => match st.s.getD i .dead with
      | .box cs =>
        let vs := cellsOf (ev gl st x)
        A.guard (Nat.beq vs.length n && Nat.ble (off + n) cs.length && vs.all cellOk) (K { kill st x with s := st.s.set i (.box (putCells cs off vs)) })
      | _ => A.fail
    | _ => A.fail

noncomputable def q_nc (d : Nat) (x : O) (st : St) (K : St → R) : R :=
  match ev gl st x with
    | .ptr i o => K (st.setQ d (.ptr i o))
    | .lref t o => K (st.setQ d (.lref t o))
    | .d (.iptr cs o) => K (st.setQ d (.d (.iptr cs o)))
    | .d (.fn f) => K (st.setQ d (.d (.fn f)))
    | .func f a c => K (st.setQ d (.func f a c))
    | _ => A.fail

noncomputable def q_bi (d : Nat) (op : BinOp) (x : O) (y : O) (st : St) (K : St → R) : R :=
  match ev gl st x, ev gl st y with
    | .d (.int k a), .d (.int k' b) => match shOp op k a b with
      | some r => A.guard (decide (0 ≤ b)) (K (st.setQ d (.d r)))
      | none => match intOp op k a b with
        | some (ok, r) => A.guard (decide (k = k')) (A.guard ok (K (st.setQ d (.d r))))
        | none => A.fail
    | .d (.str a), .d (.str b) => match strOp op a b with
      | some (ok, r) => A.guard ok (K (st.setQ d (.d r)))
      | none => A.fail
    | _, _ => A.fail

noncomputable def q_eq (d : Nat) (neg : Bool) (ag : Bool) (ks : List Nat) (x : O) (y : O) (st : St) (K : St → R) : R :=
  match toD (ev gl st x), toD (ev gl st y) with
    | some a, some b => A.guard (isAg ag a && isAg ag b) <| match eqK ks a.cells b.cells with
      | some r => K (st.setQ d (.d (.bool (cond neg (!r) r))))
      | none => A.fail
    | _, _ => A.fail

noncomputable def q_un (d : Nat) (op : UnOp) (x : O) (st : St) (K : St → R) : R :=
  match op, ev gl st x with
    | .not, .d (.bool b) => K (st.setQ d (.d (.bool (!b))))
    | .neg, .d (.int k n) => K (st.setQ d (.d (.int k (k.wrap (0 - n)))))
    | .xor, .d (.int k n) => K (st.setQ d (.d (.int k (k.wrap (BitVec.ofInt k.bits (if k.signed then -1 else k.max) ^^^ BitVec.ofInt k.bits n).toNat))))
    | _, _ => A.fail

noncomputable def q_ci (d : Nat) (k : IntKind) (x : O) (st : St) (K : St → R) : R :=
  match ev gl st x with
    | .d (.int _ n) => K (st.setQ d (.d (.int k (k.wrap n))))
    | _ => A.fail

noncomputable def q_cs (d : Nat) (x : O) (st : St) (K : St → R) : R :=
  match ev gl st x with
    | .d (.str s) => K (st.setQ d (.d (.str s)))
    | _ => A.fail

noncomputable def q_sb (d : Nat) (x : O) (st : St) (K : St → R) : R :=
  match ev gl st x with
    | .d (.str s) => K (st.setQ d (.d (.list 1 (s.map byteD))))
    | _ => A.fail

noncomputable def q_bs (d : Nat) (x : O) (st : St) (K : St → R) : R :=
  match listS (ev gl st x) with
    | some (_, l) => match unbytes l with
      | some s => K (st.setQ d (.d (.str s)))
      | none => A.fail
    | none => A.fail

noncomputable def q_fa (d : Nat) (x : O) (off : Nat) (st : St) (K : St → R) : R :=
  match ev gl st x with
    | .ptr i o => K (st.setQ d (.ptr i (o + off)))
    | .lref t o => K (st.setQ d (.lref t (o + off)))
    | .d (.iptr cs o) => K (st.setQ d (.d (.iptr cs (o + off))))
    | _ => A.fail

noncomputable def q_fd (d : Nat) (x : O) (off : Nat) (n : Nat) (ag : Bool) (st : St) (K : St → R) : R :=
  
    let cs := cellsOf (ev gl st x)
    A.guard (isAggV (ev gl st x) && Nat.ble (off + n) cs.length) (K (st.setQ d (valOf cs off n ag)))

noncomputable def q_ia (d : Nat) (x : O) (i : O) (sz : Nat) (st : St) (K : St → R) : R :=
  match ev gl st i with
    | .d (.int _ n) => match ev gl st x with
      | .sl j off len _ sz' => A.guard (Nat.beq sz' sz && decide (0 ≤ n) && decide (n < len)) (K (st.setQ d (.ptr j (off + n.toNat * sz))))
      | v => match listS v with
        | some (sz', l) => A.guard (Nat.beq sz' sz && decide (0 ≤ n) && decide (n < l.length)) (K (st.setQ d (.d (.iptr (l.getD n.toNat .nilp).cells 0))))
        | none => A.fail
    | _ => A.fail

noncomputable def q_aa (d : Nat) (x : O) (i : O) (len : Nat) (sz : Nat) (st : St) (K : St → R) : R :=
  match ev gl st i with
    | .d (.int _ n) => A.guard (decide (0 ≤ n) && decide (n < len)) <| match ev gl st x with
      | .ptr j o => K (st.setQ d (.ptr j (o + n.toNat * sz)))
      | .lref t o => K (st.setQ d (.lref t (o + n.toNat * sz)))
      | .d (.iptr cs o) => K (st.setQ d (.d (.iptr cs (o + n.toNat * sz))))
      | _ => A.fail
    | _ => A.fail

noncomputable def q_ix (d : Nat) (x : O) (i : O) (st : St) (K : St → R) : R :=
  match ev gl st x, ev gl st i with
    | .d (.str s), .d (.int _ n) => A.guard (decide (0 ≤ n) && decide (n < s.length)) (K (st.setQ d (.d (byteD (s.getD n.toNat 0)))))
    | _, _ => A.fail

noncomputable def q_ss (d : Nat) (x : O) (lo : Option O) (hi : Option O) (st : St) (K : St → R) : R :=
  match ev gl st x with
    | .d (.str s) => match bound gl st 0 lo, bound gl st s.length hi with
      | some l, some h => A.guard (decide (0 ≤ l) && decide (l ≤ h) && decide (h ≤ s.length)) (K (st.setQ d (.d (.str ((s.drop l.toNat).take (h.toNat - l.toNat))))))
      | _, _ => A.fail
    | _ => A.fail

noncomputable def q_sl (d : Nat) (sz0 : Nat) (x : O) (lo : Option O) (hi : Option O) (mx : Option O) (st : St) (K : St → R) : R :=
  match ev gl st x with
    | .sl j off len cap sz => match bound gl st 0 lo, bound gl st len hi, bound gl st cap mx with
      | some l, some h, some m => A.guard (Nat.beq sz sz0 && decide (0 ≤ l) && decide (l ≤ h) && decide (h ≤ m) && decide (m ≤ cap)) (K (st.setQ d (cond (decide (l = m)) (.d (.list sz [])) (.sl j (off + l.toNat * sz) (h.toNat - l.toNat) (m.toNat - l.toNat) sz))))
      | _, _, _ => A.fail
    | v => match listS v with
    | some (sz, s) => match bound gl st 0 lo, bound gl st s.length hi, bound gl st s.length mx with
      | some l, some h, some m => A.guard (Nat.beq sz sz0 && decide (0 ≤ l) && decide (l ≤ h) && decide (h ≤ m) && decide (m ≤ s.length)) (K (st.setQ d (.d (.list sz ((s.drop l.toNat).take (h.toNat - l.toNat))))))
      | _, _, _ => A.fail
    | none => A.fail

noncomputable def q_em (d : Nat) (x : O) (st : St) (K : St → R) : R :=
  match ev gl st x with
    | .sl _ _ _ _ sz => K (st.setQ d (.own sz []))
    | v => match listS v with
      | some (sz, _) => K (st.setQ d (.own sz []))
      | none => A.fail

noncomputable def q_mf (d : Nat) (f : Nat) (first : List O) (caps : List O) (st : St) (K : St → R) : R :=
  match first, caps with
    | [], [] => K (st.setQ d (.d (.fn f)))
    | _, _ =>
      let ars := first.map fun x => frz (snap (ev gl st x))
      let cs := caps.map fun x => frz (snap (ev gl st x))
      A.guard (ars.all (noL depth) && cs.all (noL depth)) (K (st.setQ d (.func f ars cs)))

noncomputable def q_cl (d : Option Nat) (f : O) (args : List O) (st : St) (K : St → R) : R :=
  match ev gl st f with
    | .d (.fn f) => callStep A f (args.map (argV gl st)) st.s fun r s' => K ({ st with s := s' }.setO d r)
    | .func f a c => callStep A f (a ++ args.map (argV gl st) ++ c) st.s fun r s' => K ({ st with s := s' }.setO d r)
    | _ => A.fail

noncomputable def q_ap (d : Nat) (s : Nat) (x : O) (sz : Nat) (bnd : Nat) (st : St) (K : St → R) : R :=
  apStep A gl false d s x sz bnd st K

noncomputable def q_ln (d : Nat) (str : Bool) (x : O) (st : St) (K : St → R) : R :=
  match ev gl st x with
    | .sl _ _ len _ _ => A.guard (!str) (K (st.setQ d (.d (.int .i64 len))))
    | .d (.str s) => A.guard str (K (st.setQ d (.d (.int .i64 s.length))))
    | v => match listS v with
      | some (_, l) => A.guard (!str) (K (st.setQ d (.d (.int .i64 l.length))))
      | none => A.fail

noncomputable def q_ex (d : Nat) (x : O) (i : Nat) (st : St) (K : St → R) : R :=
  match ev gl st x with
    | .tuple vs => A.guard (Nat.blt i vs.length) (K (st.setQ d (vs.getD i .undef)))
    | _ => A.fail

noncomputable def q_mm (d : Nat) (st : St) (K : St → R) : R :=
  K ({ st with s := st.s ++ [Ob.map []] }.setQ d (.map st.s.length))

noncomputable def q_lk (d : Nat) (ag : Bool) (ks : List Nat) (m : O) (k : O) (z : Val) (ok : Bool) (st : St) (K : St → R) : R :=
  match toD (ev gl st k) with
    | none => A.fail
    | some k => A.guard (isAg ag k && (eqK ks k.cells k.cells).isSome) <| match ev gl st m with
      | .d .nilm => K (st.setQ d (cond ok (.tuple [frz z, .d (.bool false)]) (frz z)))
      | .d (.imap kl vl) => match findK ag ks k ((kl.zip vl).map fun e => (e.1, .d e.2)) 0 with
        | some none => K (st.setQ d (cond ok (.tuple [frz z, .d (.bool false)]) (frz z)))
        | some (some j) => match vl[j]? with
          | some v => K (st.setQ d (cond ok (.tuple [.d v, .d (.bool true)]) (.d v)))
          | none => A.fail
        | none => A.fail
      | .map i => match st.s.getD i .dead with
        | .map es => match findK ag ks k es 0 with
          | some none => K (st.setQ d (cond ok (.tuple [frz z, .d (.bool false)]) (frz z)))
          | some (some j) => match es[j]? with
            | some e => K (st.setQ d (cond ok (.tuple [e.2, .d (.bool true)]) e.2))
            | none => A.fail
          | none => A.fail
        | _ => A.fail
      | _ => A.fail

noncomputable def q_mu (ag : Bool) (ks : List Nat) (m : O) (k : O) (x : O) (st : St) (K : St → R) : R :=
  match ev gl st m, toD (ev gl st k) with
    | .map i, some k => match st.s.getD i .dead with
      | .map es => match findK ag ks k es 0 with
        | some j => A.guard (noL depth (frz (ev gl st x)) && isAg ag k && (eqK ks k.cells k.cells).isSome) (K { st with s := st.s.set i (.map (putK es k (frz (ev gl st x)) j)) })
        | none => A.fail
      | _ => A.fail
    | _, _ => A.fail

noncomputable def q_mn (d : Nat) (lt : Bool) (x : O) (y : O) (st : St) (K : St → R) : R :=
  match ev gl st x, ev gl st y with
    | .d (.int k a), .d (.int k' b) => A.guard (decide (k = k')) (K (st.setQ d (.d (.int k (cond (cond lt (decide (b < a)) (decide (a < b))) b a)))))
    | _, _ => A.fail

noncomputable def q_nq (d : Nat) (neg : Bool) (kd : Nat) (x : O) (st : St) (K : St → R) : R :=
  match kd with
    | 0 => match listN (ev gl st x) with
      | some (_, _ :: _) => K (st.setQ d (.d (.bool neg)))
      | some (_, []) => A.both (K (st.setQ d (.d (.bool neg)))) (K (st.setQ d (.d (.bool (!neg)))))
      | none => A.fail
    | 1 => match ev gl st x with
      | .map _ => K (st.setQ d (.d (.bool neg)))
      | .d .nilm => K (st.setQ d (.d (.bool (!neg))))
      | _ => A.fail
    | 2 => match ev gl st x with
      | .func _ _ _ | .d (.fn _) => K (st.setQ d (.d (.bool neg)))
      | .d .nilf => K (st.setQ d (.d (.bool (!neg))))
      | _ => A.fail
    | 4 => match ev gl st x with
      | .d (.iface _ _) | .d .anyi => K (st.setQ d (.d (.bool neg)))
      | .d .nili => K (st.setQ d (.d (.bool (!neg))))
      | _ => A.fail
    | 3 => match ev gl st x with
      | .ptr _ _ | .d (.iptr _ _) => K (st.setQ d (.d (.bool neg)))
      | .d .nilp => K (st.setQ d (.d (.bool (!neg))))
      | _ => A.fail
    | _ => A.fail

noncomputable def q_cp (d : Option Nat) (f : Nat) (args : List O) (st : St) (K : St → R) : R :=
  
    let vs := args.map fun x => frz (snap (ev gl st x))
    A.guard ((vs.flatMap (refs depth)).isEmpty && vs.all (noL depth)) <| A.call f vs [] fun r s' => A.guard (s'.isEmpty && (refs depth r).isEmpty) (K (st.setO d r))

noncomputable def q_x2 (d : Nat) (k : Nat) (x : O) (y : O) (st : St) (K : St → R) : R :=
  match ev gl st x, ev gl st y with
    | .d (.str a), .d (.str b) => match ext2 k a b with
      | some r => K (st.setQ d (.d r))
      | none => A.fail
    | _, _ => A.fail

noncomputable def q_bad (_a0 : Option Nat) (_st : St) (_K : St → R) : R :=
  A.fail

noncomputable def q_nop (d : Option Nat) (st : St) (K : St → R) : R :=
  K (st.setO d .undef)

noncomputable def q_apx (d : Nat) (s : Nat) (z : Nat) (i : Nat) (x : O) (sz : Nat) (bnd : Nat) (st : St) (K : St → R) : R :=
  match st.tm s, listOf (st.tm z), st.tm i, toD (ev gl st x) with
    | .own sz1 l, some (sz2, [_]), .d (.int _ n), some dx =>
      A.guard (Nat.beq sz1 sz && Nat.beq sz2 sz && decide (n = l.length) && Nat.ble (l.length + 1) bnd && Nat.beq dx.cells.length sz && dx.cells.all oneD) (K ((st.setQ s .undef).setQ d (.own sz (l ++ [dx]))))
    | _, _, _, _ => A.fail

noncomputable def q_apn (d : Nat) (s : Nat) (x : O) (sz : Nat) (bnd : Nat) (st : St) (K : St → R) : R :=
  apStep A gl true d s x sz bnd st K

noncomputable def q_lob (d : Nat) (sz : Nat) (xs : List O) (st : St) (K : St → R) : R :=
  
    let vs := xs.map fun x => cellsOf (frz (snap (ev gl st x)))
    A.guard (!xs.isEmpty && vs.all fun l => Nat.beq l.length sz && l.all cellOk) (K ({ st with s := st.s ++ [Ob.box vs.flatten] }.setQ d (.sl st.s.length 0 xs.length xs.length sz)))

noncomputable def q_mk (d : Nat) (sz : Nat) (z : List Val) (n : O) (bnd : Nat) (st : St) (K : St → R) : R :=
  match ev gl st n with
    | .d (.int _ n) => A.guard (decide (0 ≤ n) && decide (n ≤ bnd)) (K ({ st with s := st.s ++ [Ob.box (List.replicate n.toNat z).flatten] }.setQ d (.sl st.s.length 0 n.toNat n.toNat sz)))
    | _ => A.fail

noncomputable def q_clr (d : Option Nat) (x : O) (z : List Val) (st : St) (K : St → R) : R :=
  match ev gl st x with
    | .sl i off len _ sz => match st.s.getD i .dead with
      | .box cs => A.guard (Nat.beq z.length sz && Nat.ble (off + len * sz) cs.length) (K ({ st with s := st.s.set i (.box (putCells cs off (List.replicate len z).flatten)) }.setO d (.tuple [])))
      | _ => A.fail
    | v => match listS v with
      | some (_, []) => K (st.setO d (.tuple []))
      | _ => A.fail

noncomputable def q_ax (d : Nat) (x : O) (i : O) (len : Nat) (sz : Nat) (ag : Bool) (st : St) (K : St → R) : R :=
  match ev gl st i with
    | .d (.int _ n) =>
      let cs := cellsOf (ev gl st x)
      A.guard (decide (0 ≤ n) && decide (n < len) && isAggV (ev gl st x) && Nat.ble (n.toNat * sz + sz) cs.length) (K (st.setQ d (valOf cs (n.toNat * sz) sz ag)))
    | _ => A.fail

noncomputable def q_hx (d : Nat) (t : Nat) (e : Nat) (st : St) (K : St → R) : R :=
  K ({ st with s := st.s ++ [Ob.bld t e []] }.setQ d (.ptr st.s.length 0))

noncomputable def q_rg (d : Nat) (x : O) (st : St) (K : St → R) : R :=
  match ev gl st x with
    | .d .nilm => K ({ st with s := st.s ++ [Ob.itr none] }.setQ d (.ptr st.s.length 0))
    | .map i => A.guard (match st.s.getD i .dead with | .map _ => true | _ => false) (K ({ st with s := st.s ++ [Ob.itr (some i)] }.setQ d (.ptr st.s.length 0)))
    | _ => A.fail

noncomputable def q_nx (d : Nat) (x : O) (st : St) (K : St → R) : R :=
  match ev gl st x with
    | .ptr j 0 => match st.s.getD j .dead with
      | .itr none => K (st.setQ d (.tuple [.d (.bool false)]))
      | .itr (some i) => match st.s.getD i .dead with
        | .map [] => K (st.setQ d (.tuple [.d (.bool false)]))
        | _ => A.fail
      | _ => A.fail
    | _ => A.fail

noncomputable def stepQ (i : I) : St → (St → R) → R := @I.casesOn (fun _ => St → (St → R) → R) i (q_mv gl) q_tk (q_asg gl) (q_pk A gl) (q_la A) (q_lb A gl) q_ha (q_hb A gl) (q_bd A gl) (q_li A gl) (q_ll A gl) (q_lt A gl) (q_ls A gl) (q_hl A gl) (q_ht A gl) (q_hs A gl) (q_nc A gl) (q_bi A gl) (q_eq A gl) (q_un A gl) (q_ci A gl) (q_cs A gl) (q_sb A gl) (q_bs A gl) (q_fa A gl) (q_fd A gl) (q_ia A gl) (q_aa A gl) (q_ix A gl) (q_ss A gl) (q_sl A gl) (q_em A gl) (q_mf A gl) (q_cl A gl) (q_ap A gl) (q_ln A gl) (q_ex A gl) q_mm (q_lk A gl) (q_mu A gl) (q_mn A gl) (q_nq A gl) (q_cp A gl) (q_x2 A gl) (q_bad A) q_nop (q_apx A gl) (q_apn A gl) (q_lob A gl) (q_mk A gl) (q_clr A gl) (q_ax A gl) q_hx (q_rg A gl) (q_nx A gl)

theorem stepQ_eq (i : I) : stepQ A gl i = step A gl i := by
  funext st K
  cases i <;> (simp only [stepQ, step, q_mv, q_tk, q_asg, q_pk, q_la, q_lb, q_ha, q_hb, q_bd, q_li, q_ll, q_lt, q_ls, q_hl, q_ht, q_hs, q_nc, q_bi, q_eq, q_un, q_ci, q_cs, q_sb, q_bs, q_fa, q_fd, q_ia, q_aa, q_ix, q_ss, q_sl, q_em, q_mf, q_cl, q_ap, q_ln, q_ex, q_mm, q_lk, q_mu, q_mn, q_nq, q_cp, q_x2, q_bad, q_nop, q_apx, q_apn, q_lob, q_mk, q_clr, q_ax, q_hx, q_rg, q_nx, St.setQ_eq] ; try rfl)

end
end Go.Vm
end

section
/- The machine's interpreter by recursors: it is the machine's. Conditions: none. -/
namespace Go.Vm
section
variable {R : Type} (A : Alg R) (gl : Nat → List D)

def guardQ (s : Nat) (w : Bool) (d : Option Nat) (f : St → (St → R) → R) (st : St) (K : St → R) : R := match st.tm s with
  | .d (.bool b) => cond (cond w b (!b)) (f st K) (K (st.setO d (.tuple [])))
  | .tuple [] => K (st.setO d (.tuple []))
  | _ => A.fail

noncomputable def doG (g : GI) : St → (St → R) → R := @GI.casesOn (fun _ => St → (St → R) → R) g fun gu i =>
  @Option.casesOn (Nat × Bool) (fun _ => St → (St → R) → R) gu (stepQ A gl i) fun p => @Prod.casesOn Nat Bool (fun _ => St → (St → R) → R) p fun s w => guardQ A s w i.dst (stepQ A gl i)

theorem doG_eq (g : GI) (st : St) (K : St → R) : doG A gl g st K = step1 A gl g st K := by
  obtain ⟨gu, i⟩ := g
  cases gu with
  | none => simp only [doG, step1, stepQ_eq]
  | some p =>
    obtain ⟨s, w⟩ := p
    simp only [doG, step1, stepQ_eq, guardQ]
    rfl

theorem steps_step1 (g : GI) (l : List GI) (st : St) (K : St → R) : steps A gl (g :: l) st K = step1 A gl g st fun st => steps A gl l st K := by
  obtain ⟨gu, i⟩ := g
  cases gu with
  | none => rfl
  | some p =>
    obtain ⟨s, w⟩ := p
    simp only [steps, step1]

noncomputable def stepsQ (l : List GI) : St → (St → R) → R := @List.rec GI (fun _ => St → (St → R) → R) (fun st K => K st) (fun g _ ih st K => doG A gl g st fun st => ih st K) l

theorem stepsQ_eq : ∀ (l : List GI) (st : St) (K : St → R), stepsQ A gl l st K = steps A gl l st K
  | [], _, _ => rfl
  | g :: l, st, K => by
    rw [steps_step1]
    show doG A gl g st (fun st => stepsQ A gl l st K) = _
    rw [doG_eq]
    congr 1
    funext st
    exact stepsQ_eq l st K

def seqK (ib : St → (Ex → St → R) → R) (K : Ex → St → R) (x : Ex) (st : St) : R := match x with
  | .normal => ib st K
  | x => K x st

def condQ (c : O) (ia ib : St → (Ex → St → R) → R) (st : St) (K : Ex → St → R) : R := match ev gl st c with
  | .d (.bool t) => cond t (ia st K) (ib st K)
  | _ => A.fail

def blockK (i : Nat) (K : Ex → St → R) (x : Ex) (st : St) : R := match x with
  | .exit j => cond (Nat.beq j i) (K .normal st) (K (.exit j) st)
  | x => K x st

def loopK (ts bs : List Nat) (n : Nat) (K : Ex → St → R) (rec : St → R) (x : Ex) (st : St) : R := match x with
  | .normal => forget A n ts bs st rec
  | x => K x st

def rbQ (x : O) (ps : List Nat) (ra rb : St → (Ex → St → R) → R) (st : St) (K : Ex → St → R) : R := match ev gl st x with
  | .func g [] caps => iterY A gl ra rb ps g caps st K
  | .d (.fn g) => iterY A gl ra rb ps g [] st K
  | _ => A.fail

noncomputable def runQ (c : VC) : St → (Ex → St → R) → R := @VC.rec (fun _ => St → (Ex → St → R) → R)
  (fun st K => K .normal st)
  (fun l st K => stepsQ A gl l st (K .normal))
  (fun l cf st K => runAny A gl l cf st (K .normal))
  (fun _ _ => A.fail)
  (fun _ _ ia ib st K => ia st (seqK ib K))
  (fun c _ _ ia ib => condQ A gl c ia ib)
  (fun i _ ib st K => ib st (blockK i K))
  (fun ts bs _ ib st K => forget A st.s.length ts bs st fun st0 => A.fix (fun st1 rec => ib st1 (loopK A ts bs st1.s.length K rec)) st0)
  (fun x ps _ _ ia ib => rbQ A gl x ps ia ib)
  (fun i st K => K (.exit i) st)
  (fun st K => K .ret st) c

theorem runQ_eq : ∀ (c : VC) (st : St) (K : Ex → St → R), runQ A gl c st K = run A gl c st K := by
  intro c
  induction c with
  | skip => intro st K; rfl
  | ops l => intro st K; exact stepsQ_eq A gl l st _
  | any l cf => intro st K; rfl
  | bad => intro st K; rfl
  | seq a b iha ihb =>
    intro st K
    show runQ A gl a st (seqK (runQ A gl b) K) = run A gl a st _
    rw [iha]
    congr 1
    funext x st
    cases x <;> first | rfl | exact ihb st K
  | cond c a b iha ihb =>
    intro st K
    show condQ A gl c (runQ A gl a) (runQ A gl b) st K = _
    simp only [condQ, run, iha, ihb]
    rfl
  | block i b ih =>
    intro st K
    show runQ A gl b st (blockK i K) = run A gl b st _
    rw [ih]
    congr 1
  | loop ts bs b ih =>
    intro st K
    show forget A st.s.length ts bs st (fun st0 => A.fix (fun st1 rec => runQ A gl b st1 (loopK A ts bs st1.s.length K rec)) st0) = _
    simp only [run, ih]
    rfl
  | rb x ps a b iha ihb =>
    intro st K
    show rbQ A gl x ps (runQ A gl a) (runQ A gl b) st K = _
    have ha : runQ A gl a = run A gl a := by funext st K; exact iha st K
    have hb : runQ A gl b = run A gl b := by funext st K; exact ihb st K
    rw [ha, hb]
    rfl
  | exit i => intro st K; rfl
  | ret => intro st K; rfl

def endQ (res : List Res) (K : Val → Store → R) (n : Nat) (x : Ex) (st : St) : R := match x with
  | .exit _ => A.fail
  | _ => match resVal st res with
    | some r => A.guard (noL depth r) (K r (gc n r st.s))
    | none => A.fail

noncomputable def runFQ (fn : VF) (args : List Val) (s : Store) (K : Val → Store → R) : R :=
  runQ A gl fn.code ⟨initT args 0, fun _ => none, s⟩ (endQ A fn.res K s.length)

theorem runFQ_eq (fn : VF) (args : List Val) (s : Store) (K : Val → Store → R) : runFQ A gl fn args s K = runF A gl fn args s K := by
  unfold runFQ runF
  rw [runQ_eq]
  congr 1

end

noncomputable def loopQ (n : Nat) : (St → (St → Out) → Out) → St → Out := @Nat.rec (fun _ => (St → (St → Out) → Out) → St → Out) (fun _ _ => none) (fun _ ih F st => F st (ih F)) n

theorem loopQ_eq : ∀ (n : Nat) (F : St → (St → Out) → Out) (st : St), loopQ n F st = loopN n F st
  | 0, _, _ => rfl
  | n + 1, F, st => by
    show F st (loopQ n F) = F st _
    congr 1
    funext st
    exact loopQ_eq n F st

def guardO (b : Bool) (p : Out) : Out := cond b p none
def callO (call : Nat → List Val → Store → Out) (f : Nat) (args : List Val) (s : Store) (K : Val → Store → Out) : Out := match call f args s with
  | some (r, s') => K r s'
  | none => none
def bothO (p q : Out) : Out := match p, q with
  | some a, some b => cond (eqOut a b) (some a) none
  | _, _ => none
def iterO (tab : Nat → Option VF) (g : Nat) (k : VF → Out) : Out := match tab g with
  | some vf => k vf
  | none => none

noncomputable def evalQ (tab : Nat → Option VF) (call : Nat → List Val → Store → Out) (fuel : Nat) : Alg Out := ⟨none, guardO, callO call, loopQ fuel, bothO, iterO tab⟩

theorem evalQ_eq (tab : Nat → Option VF) (call : Nat → List Val → Store → Out) (fuel : Nat) : evalQ tab call fuel = evalAlg tab call fuel := by
  have h : loopQ fuel = fun F st => loopN fuel F st := by
    funext F st
    exact loopQ_eq fuel F st
  unfold evalQ
  rw [h]
  rfl

/-- The machine, with functions from outside. -/
noncomputable def execQ (ext : Nat → List Val → Store → Out) (tab : Nat → Option VF) (gl : Nat → List D) (fuel n : Nat) : Nat → List Val → Store → Out :=
  @Nat.rec (fun _ => Nat → List Val → Store → Out) (fun _ _ _ => none) (fun _ ih f args s => match ext f args s with
    | some r => some r
    | none => match tab f with
      | some vf => runFQ (evalQ tab ih fuel) gl vf args s fun r s' => some (r, s')
      | none => none) n

theorem execQ_eq (ext : Nat → List Val → Store → Out) (tab : Nat → Option VF) (gl : Nat → List D) (fuel : Nat) : ∀ n, execQ ext tab gl fuel n = execX ext tab gl fuel n
  | 0 => rfl
  | n + 1 => by
    funext f args s
    show (match ext f args s with
      | some r => some r
      | none => match tab f with
        | some vf => runFQ (evalQ tab (execQ ext tab gl fuel n) fuel) gl vf args s fun r s' => some (r, s')
        | none => none) = _
    rw [execQ_eq ext tab gl fuel n, evalQ_eq]
    simp only [runFQ_eq]
    rfl

end Go.Vm
end

section
/- Concrete runs in parts: a call whose outcome is known is looked up. Conditions: none. -/
namespace Go.Vm

def eqWs : List Val → List Val → Bool
  | [], [] => true
  | a :: l, b :: m => eqW depth a b && eqWs l m
  | _, _ => false

def eqSt : Store → Store → Bool
  | [], [] => true
  | a :: l, b :: m => eqOb a b && eqSt l m
  | _, _ => false

theorem eqWs_eq : ∀ {a b : List Val}, eqWs a b = true → a = b
  | [], [], _ => rfl
  | [], _ :: _, h => by simp [eqWs] at h
  | _ :: _, [], h => by simp [eqWs] at h
  | a :: l, b :: m, h => by
    simp only [eqWs, Bool.and_eq_true] at h
    rw [eqW_eq _ _ _ h.1, eqWs_eq h.2]

theorem eqSt_eq : ∀ {a b : Store}, eqSt a b = true → a = b
  | [], [], _ => rfl
  | [], _ :: _, h => by simp [eqSt] at h
  | _ :: _, [], h => by simp [eqSt] at h
  | a :: l, b :: m, h => by
    simp only [eqSt, Bool.and_eq_true] at h
    rw [eqOb_eq _ _ h.1, eqSt_eq h.2]

/-- One call more is known. -/
def memo (f : Nat) (args : List Val) (s : Store) (r : Val) (s' : Store) (base : Nat → List Val → Store → Out) : Nat → List Val → Store → Out := fun f0 args0 s0 =>
  cond (Nat.beq f0 f) (cond (eqWs args0 args) (cond (eqSt s0 s) (some (r, s')) (base f0 args0 s0)) (base f0 args0 s0)) (base f0 args0 s0)

theorem memo_ok {P : Program} {gl : Nat → List D} {f : Nat} {args : List Val} {s : Store} {r : Val} {s' : Store} {base : Nat → List Val → Store → Out} (hb : CallOk P gl base) (h : VEv P gl f args s r s') : CallOk P gl (memo f args s r s' base) := by
  intro f0 args0 s0 r0 s0' h0
  unfold memo at h0
  cases h1 : Nat.beq f0 f with
  | false => rw [h1] at h0; exact hb _ _ _ _ _ h0
  | true =>
    cases h2 : eqWs args0 args with
    | false => rw [h1, h2] at h0; exact hb _ _ _ _ _ h0
    | true =>
      cases h3 : eqSt s0 s with
      | false => rw [h1, h2, h3] at h0; exact hb _ _ _ _ _ h0
      | true =>
        rw [h1, h2, h3] at h0
        simp only [cond_true, Option.some.injEq, Prod.mk.injEq] at h0
        obtain ⟨rfl, rfl⟩ := h0
        rw [Nat.eq_of_beq_eq_true h1, eqWs_eq h2, eqSt_eq h3]
        exact h

/-! ### Which functions are known -/

def TabAll (P : Program) : List (Nat × VF) → Prop
  | [] => True
  | p :: l => Compiled P p.1 p.2 ∧ TabAll P l

def TabAlls (P : Program) : List (List (Nat × VF)) → Prop
  | [] => True
  | l :: m => TabAll P l ∧ TabAlls P m

def lookF (f : Nat) : List (Nat × VF) → Option VF
  | [] => none
  | p :: l => cond (Nat.beq f p.1) (some p.2) (lookF f l)

def nthF (f : Nat) : Nat → List (List (Nat × VF)) → Option VF
  | _, [] => none
  | 0, l :: _ => lookF f l
  | n + 1, _ :: m => nthF f n m

theorem lookF_ok {P : Program} {f : Nat} {vf : VF} : ∀ {l : List (Nat × VF)}, TabAll P l → lookF f l = some vf → Compiled P f vf
  | [], _, h => by simp [lookF] at h
  | p :: l, ha, h => by
    simp only [lookF] at h
    cases hb : Nat.beq f p.1 with
    | true =>
      rw [hb] at h
      simp only [cond_true, Option.some.injEq] at h
      rw [← h, Nat.eq_of_beq_eq_true hb]
      exact ha.1
    | false => rw [hb] at h; exact lookF_ok ha.2 h

theorem nthF_ok {P : Program} {f : Nat} {vf : VF} : ∀ {n : Nat} {m : List (List (Nat × VF))}, TabAlls P m → nthF f n m = some vf → Compiled P f vf
  | _, [], _, h => by simp [nthF] at h
  | 0, l :: m, ha, h => lookF_ok ha.1 h
  | n + 1, l :: m, ha, h => nthF_ok (n := n) (m := m) ha.2 h

def tabOf (m : List (List (Nat × VF))) (f : Nat) : Option VF := nthF f (f / 16) m

theorem tabOf_ok {P : Program} {m : List (List (Nat × VF))} (h : TabAlls P m) : TabOk P (tabOf m) := fun _ _ hf => nthF_ok h hf

theorem execQ_sound {P : Program} {gl : Nat → List D} {tab : Nat → Option VF} {ext : Nat → List Val → Store → Out} {fuel : Nat} (he : CallOk P gl ext) (ht : TabOk P tab) (n : Nat) : CallOk P gl (execQ ext tab gl fuel n) := by
  rw [execQ_eq]
  exact execX_sound he ht n

end Go.Vm
end

section
/- Functions of Go's library, by their contracts. Conditions: none. -/
namespace Go.Vm
open Go.RowKit

section
variable {P : Program} {gl : Nat → List D} {w w' : World} {G : Gh} {ρ : List Nat}

theorem cell_lt {b off : Nat} {v : Value} (h : w.cell? ⟨b, off, none⟩ = some v) : b < w.heap.size := by
  unfold World.cell? at h
  rcases Nat.lt_or_ge b w.heap.size with h' | h'
  · exact h'
  · rw [Array.getElem?_eq_none h'] at h; simp at h

theorem below_keeps (h : Below w.heap.size w w') : Keeps w G w' G := by
  refine ⟨fun b off v hc => ⟨?_, hc.2⟩, fun b ks vs hm => ?_, fun b n hs => ?_⟩
  · rw [World.cell?_of_block (h.block b (cell_lt hc.1))]; exact hc.1
  · obtain ⟨h1, mes, clock, h2, h3⟩ := hm
    exact ⟨h1, mes, clock, (h.block b (Array.getElem?_eq_some_iff.1 h2).1).trans h2, h3⟩
  · obtain ⟨c, E, fz, h2, h3⟩ := hs
    exact ⟨c, E, fz, (h.block b (Array.getElem?_eq_some_iff.1 h2).1).trans h2, h3⟩

theorem below_same (hlt : ∀ b L n, G b = some (L, n) → b < w.heap.size) (h : Below w.heap.size w w') (L : Loc) : SameL L L w G w' G := fun b _n hb => ⟨h.block b (hlt _ _ _ hb), hb⟩

theorem below_good (hlt : ∀ b L n, G b = some (L, n) → b < w.heap.size) (h : Below w.heap.size w w') : Good w G w' G where
  size := h.size
  imm b hb _ := ⟨h.block b hb, rfl⟩
  new _b _n hb hG := absurd (hlt _ _ _ hG) (Nat.not_lt.2 hb)
  old _ _ _ h := h
  keep := below_keeps h
  os := h.os
  out := h.output

/-- A call that leaves all that was there as it was. -/
theorem vev_below {f : Nat} {args : List Val} {s : Store} {r : Val} (hf : Callable P f)
    (h : ∀ (w : World) (G : Gh) (ρ : List Nat) (vs : List Value), RelObs w G ρ s → RelG gl w G → RelL w G ρ vs args → ∃ R : Ending → World → Prop, Calls P f ⟨vs⟩ w R ∧ ∀ e w', R e w' → ∃ v, e = .returned v ∧ (∀ w' : World, RelV w' G ρ .res v r) ∧ Below w.heap.size w w') :
    VEv P gl f args s r s := by
  refine ⟨hf, fun w G ρ vs hob hg hlt hv => ?_⟩
  obtain ⟨R, hc, hR⟩ := h w G ρ vs hob hg hv
  refine hc.mono ?_
  intro e w' he
  obtain ⟨v, rfl, hr, hb⟩ := hR e w' he
  exact ⟨v, G, ρ, rfl, hr w', hob.tr (below_keeps hb) (fun i => below_same hlt hb _) (fun i j => below_same hlt hb _), fun b L n h => Nat.lt_of_lt_of_le (hlt b L n h) hb.size, below_good hlt hb, fun _ _ h => h⟩

/-! ### strings.Join -/

def joinB (sep : List UInt8) : List (List UInt8) → List UInt8
  | [] => []
  | a :: l => a ++ (l.flatMap fun x => sep ++ x)

theorem joinB_eq (sep : List UInt8) (l : List (List UInt8)) : Lib.join l sep = joinB sep l := by
  cases l with
  | nil => rfl
  | cons a l =>
    rw [Lib.join_cons]
    simp only [joinB, Lib.joinTail, List.flatMap]

def strsD : List D → Option (List (List UInt8))
  | [] => some []
  | .str s :: l => match strsD l with
    | some r => some (s :: r)
    | none => none
  | _ :: _ => none

theorem strsD_rd : ∀ {l : List D} {ss : List (List UInt8)} {vs : List Value}, strsD l = some ss → RdL w G vs l → ∃ xs : List ByteArray, vs = xs.map .string ∧ xs.map (·.data.toList) = ss
  | [], ss, vs, h, hr => by
    simp only [strsD, Option.some.injEq] at h
    subst h
    cases hr
    exact ⟨[], rfl, rfl⟩
  | d :: l, ss, vs, h, hr => by
    cases d <;> simp only [strsD, reduceCtorEq] at h
    split at h
    · rename_i r hr'
      simp only [Option.some.injEq] at h
      subst h
      cases hr with
      | cons v _ vs _ h1 h2 =>
        obtain ⟨xs, rfl, rfl⟩ := strsD_rd hr' h2
        cases h1 with
        | str s _ he => exact ⟨s :: xs, rfl, by rw [List.map_cons, he]⟩
    · simp at h

theorem strsD_cells : ∀ {l : List D} {ss : List (List UInt8)}, strsD l = some ss → l.flatMap D.cells = l ∧ l.length = ss.length
  | [], ss, h => by simp only [strsD, Option.some.injEq] at h; subst h; exact ⟨rfl, rfl⟩
  | d :: l, ss, h => by
    cases d <;> simp only [strsD, reduceCtorEq] at h
    split at h
    · rename_i r hr'
      simp only [Option.some.injEq] at h
      subst h
      obtain ⟨h1, h2⟩ := strsD_cells hr'
      exact ⟨by rw [List.flatMap_cons, h1]; rfl, by simp [h2]⟩
    · simp at h

/-- What is handed to Join: a list, or a slice of an object. -/
def joinArg (s : Store) (v : Val) : Option (List (List UInt8)) := match v with
  | .sl i off len cap 1 => match s.getD i .dead with
    | .box cs => cond (Nat.ble len cap && Nat.ble (off + len) cs.length) (match frzL ((cs.drop off).take len) with
      | some l => strsD l
      | none => none) none
    | _ => none
  | .d (.list 1 l) => strsD l
  | .own _ [] => some []
  | _ => none

structure JoinIs (P : Program) (f : Nat) : Prop where
  none : ∀ (a : Option Addr) (c : Nat) (sep : ByteArray) (w : World), Calls P f #[.slice a 0 c, .string sep] w fun e w' => e = .returned (.string ⟨#[]⟩) ∧ w' = w
  some : ∀ (bk o c : Nat) (xs : List ByteArray) (sep : ByteArray) (w : World), (∀ (j : Nat) x, xs[j]? = some x → w.cell? ⟨bk, o + j, Option.none⟩ = some (.string x)) → bk < w.heap.size → xs.length ≤ 140737488355328 → xs.length ≤ c →
    (Lib.join (xs.map (·.data.toList)) sep.data.toList).length ≤ 140737488355328 → Calls P f #[.slice (Option.some ⟨bk, o, Option.none⟩) xs.length c, .string sep] w fun e w' => e = .returned (.string ⟨(Lib.join (xs.map (·.data.toList)) sep.data.toList).toArray⟩) ∧ Below w.heap.size w w'

theorem cells_get {b off : Nat} {vs : List Value} (h : CellsAt w G b off vs) {j : Nat} {v : Value} (hv : vs[j]? = some v) : w.cell? ⟨b, off + j, none⟩ = some v := (h j v hv).1

theorem vev_join {f : Nat} {x : Val} {sep : List UInt8} {ss : List (List UInt8)} {s : Store} (hf : Callable P f) (J : JoinIs P f) (hx : joinArg s x = some ss) (hn : ss.length ≤ 140737488355328) (hlen : (joinB sep ss).length ≤ 140737488355328) :
    VEv P gl f [x, .d (.str sep)] s (.d (.str (joinB sep ss))) s := by
  refine vev_below hf fun w G ρ vs hob hg hv => ?_
  have hfin : ∀ {a : Option Addr} {n c : Nat} {us : List Value} {sp : ByteArray} {l : List D}, sp.data.toList = sep → strsD l = some ss → RdL w G us l → n = l.length → n ≤ c → (0 < n → ∃ b off, a = some ⟨b, off, none⟩ ∧ ∀ (j : Nat) v, us[j]? = some v → w.cell? ⟨b, off + j, none⟩ = some v) →
      ∃ R : Ending → World → Prop, Calls P f ⟨[.slice a n c, .string sp]⟩ w R ∧ ∀ e w', R e w' → ∃ v, e = .returned v ∧ (∀ w' : World, RelV w' G ρ .res v (.d (.str (joinB sep ss)))) ∧ Below w.heap.size w w' := by
    intro a n c us sp l hsp hss hr hnl hc hcell
    obtain ⟨xs, rfl, hxs⟩ := strsD_rd hss hr
    have hl := (strsD_cells hss).2
    have hxl : xs.length = n := by have := hr.length; simp at this; omega
    cases n with
    | zero =>
      refine ⟨_, J.none a c sp w, ?_⟩
      rintro e w' ⟨rfl, rfl⟩
      have : ss = [] := by cases ss with | nil => rfl | cons _ _ => simp at hl; omega
      subst this
      exact ⟨_, rfl, fun _ => .d _ _ (.str _ _ rfl), Below.refl _ _⟩
    | succ n =>
      obtain ⟨b, off, rfl, hcl⟩ := hcell (Nat.succ_pos n)
      have hcl' : ∀ (j : Nat) x, xs[j]? = some x → w.cell? ⟨b, off + j, none⟩ = some (.string x) := fun j x hj => hcl j _ (by rw [List.getElem?_map, hj]; rfl)
      have hblt : b < w.heap.size := by
        have h0 : xs[0]? = some (xs[0]'(by omega)) := List.getElem?_eq_getElem _
        exact cell_lt (hcl' 0 _ h0)
      have hJ := J.some b off c xs sp w hcl' hblt (by rw [hxl, hnl, hl]; exact hn) (by omega) (by rw [hxs, hsp, joinB_eq]; exact hlen)
      rw [hxl] at hJ
      refine ⟨_, hJ, ?_⟩
      rintro e w' ⟨rfl, hb⟩
      refine ⟨_, rfl, fun _ => .d _ _ (.str _ _ ?_), hb⟩
      rw [hxs, hsp, joinB_eq]
  cases hv with
  | cons v1 _ vs1 _ h1 h2 => cases h2 with
    | cons v2 _ vs2 _ h3 h4 =>
      cases h4
      cases h3 with
      | d _ _ h3 => cases h3 with
        | str sp _ hsp =>
          unfold joinArg at hx
          split at hx
          · rename_i i off len cap
            cases h1 with
            | sl _ _ _ _ cap' _ b hρ hcc hz =>
              split at hx
              · rename_i cs hcs
                cases hle : (Nat.ble len cap && Nat.ble (off + len) cs.length) with
                | false => rw [hle] at hx; simp at hx
                | true =>
                  rw [hle] at hx
                  simp only [cond_true] at hx
                  rw [Bool.and_eq_true] at hle
                  have hle1 := Nat.le_of_ble_eq_true hle.1
                  have hle := Nat.le_of_ble_eq_true hle.2
                  split at hx
                  · rename_i l hl
                    have hO : RelO w G ρ i b (.box cs) := by have := hob.at hρ; rwa [hcs] at this
                    obtain ⟨c, E, fz, hb1, hb2, hb3, hb4, hb5⟩ := hO
                    have hd : (c.toList.drop off).take len = (c.toList.drop off).take len := rfl
                    have hlen2 : ((c.toList.drop off).take len).length = len := by simp; omega
                    have hrd : RdL w G ((c.toList.drop off).take len) l := by
                      refine frzL_rd (ρ := ρ) (LC := fun j => .ocell i (off + j)) (k := 0) (xs := (cs.drop off).take len) (by simp; omega) (fun j v x hv hx => ?_) hl
                      rw [List.getElem?_take] at hv hx
                      split at hv
                      · rename_i hj
                        rw [if_pos hj] at hx
                        rw [List.getElem?_drop] at hv hx
                        rw [Nat.zero_add]
                        exact hb5 (off + j) v x (by simpa using hv) hx
                      · simp at hv
                    refine hfin (us := (c.toList.drop off).take len) hsp hx hrd (by rw [← hrd.length, hlen2]) (Nat.le_trans hle1 hcc) (fun _ => ⟨b, off, rfl, fun j v hj => ?_⟩)
                    rw [List.getElem?_take] at hj
                    split at hj
                    · rw [List.getElem?_drop] at hj
                      simp only [World.cell?, hb1]
                      simpa using hj
                    · simp at hj
                  · simp at hx
              · simp at hx
          · rename_i l
            cases h1 with
            | d _ _ h1 => cases h1 with
              | list0 a c _ => exact hfin hsp hx .nil rfl (Nat.zero_le _) (fun h => absurd h (Nat.lt_irrefl 0))
              | list b off n c _ _ us e1 e2 e3 e4 e5 =>
                rw [(strsD_cells hx).1] at e5
                exact hfin hsp hx e5 e1 e2 fun _ => ⟨b, off, rfl, fun j v hj => cells_get e4 hj⟩
          · cases h1 with
            | nil a sz => exact hfin (l := []) hsp hx .nil rfl (Nat.zero_le _) (fun h => absurd h (Nat.lt_irrefl 0))
          · simp at hx

/-! ### strconv.Itoa, strconv.Atoi -/

def digB : Nat → Nat → List UInt8 → List UInt8
  | 0, _, acc => acc
  | f + 1, n, acc => cond (Nat.blt n 10) (UInt8.ofNat (48 + n) :: acc) (digB f (n / 10) (UInt8.ofNat (48 + n % 10) :: acc))

theorem digB_eq : ∀ (f n : Nat) (acc : List UInt8), n < 10 ^ f → digB f n acc = cond (Nat.beq f 0) acc (Lib.decDigits n ++ acc)
  | 0, n, acc, _ => rfl
  | f + 1, n, acc, h => by
    simp only [digB]
    cases hb : Nat.blt n 10 with
    | true =>
      have hb' : n < 10 := by simpa [Nat.blt_eq] using hb
      rw [Lib.decDigits, dif_pos hb']
      rfl
    | false =>
      have hb' : ¬ n < 10 := fun h' => Bool.noConfusion (hb.symm.trans (show Nat.blt n 10 = true by simpa [Nat.blt_eq] using h'))
      rw [cond_false, digB_eq f (n / 10) _ (by rw [Nat.pow_succ] at h; omega)]
      conv => rhs; rw [Lib.decDigits, dif_neg hb']
      cases f with
      | zero => simp at h; omega
      | succ f => simp [Nat.beq]

structure ItoaIs (P : Program) (f : Nat) : Prop where
  small : ∀ (i : Nat), i < 100 → ∀ w : World, Calls P f #[.int .i64 i] w fun e w' => e = .returned (.string ⟨(Lib.decDigits i).toArray⟩) ∧ w' = w

theorem vev_itoa {f n : Nat} {s : Store} (hf : Callable P f) (J : ItoaIs P f) (hn : n < 100) : VEv P gl f [.d (.int .i64 n)] s (.d (.str (digB 2 n []))) s := by
  refine vev_below hf fun w G ρ vs hob hg hv => ?_
  cases hv with
  | cons v1 _ vs1 _ h1 h2 =>
    cases h2
    cases h1 with
    | d _ _ h1 =>
      cases h1
      refine ⟨_, J.small n hn w, ?_⟩
      rintro e w' ⟨rfl, rfl⟩
      refine ⟨_, rfl, fun _ => .d _ _ (.str _ _ ?_), Below.refl _ _⟩
      rw [digB_eq 2 n [] (by simpa using hn)]
      simp [Nat.beq]

structure AtoiIs (P : Program) (f : Nat) : Prop where
  ok : ∀ (s : ByteArray), s.size ≤ 9223372036854775806 → ∀ v : Int, Lib.atoiAll s.data.toList = .ok v → ∀ w : World, Calls P f #[.string s] w fun e w' => e = .returned (.tuple #[.int .i64 v, .nilIface]) ∧ Below w.heap.size w w'

theorem vev_atoi {f : Nat} {l : List UInt8} {v : Int} {s : Store} (hf : Callable P f) (J : AtoiIs P f) (hl : l.length ≤ 9223372036854775806) (hv : Lib.atoiAll l = .ok v) :
    VEv P gl f [.d (.str l)] s (.tuple [.d (.int .i64 v), .d .nili]) s := by
  refine vev_below hf fun w G ρ vs hob hg hvs => ?_
  cases hvs with
  | cons v1 _ vs1 _ h1 h2 =>
    cases h2
    cases h1 with
    | d _ _ h1 => cases h1 with
      | str sp _ hsp =>
        subst hsp
        refine ⟨_, J.ok sp (by simpa using hl) v hv w, ?_⟩
        rintro e w' ⟨rfl, hb⟩
        exact ⟨_, rfl, fun _ => .tuple [.int .i64 v, .nilIface] _ (.cons _ _ _ _ (.d _ _ (.int _ _)) (.cons _ _ _ _ (.d _ _ .nili) .nil)), hb⟩

end
end Go.Vm
end
