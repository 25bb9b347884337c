/- Part of a small abstract machine over the kit. Conditions: none. -/
import Derived.Test.YthalcnhgnadmlaaDoorV1
import Derived.Lib.Strings
import Derived.Lib.SmallJoins
import Derived.Laws.StructEq
import Derived.Lib.UnsafeStr
section
/- Operations on values: arithmetic, strings, addresses. Conditions: none. -/
namespace Go.Vm

section
variable {P : Program} {gl : Nat → List D} {n0 nt : Nat} {a : Act} {w w' : World} {G G' : Gh} {ρ ρ' : List Nat} {lam lam' : Nat → Option Nat} {st st' : St} {K : St → Prop} {o : Oper} {Q : Exit → Act → World → Prop}

theorem underlying_run {t : Nat} {d : TypeDesc} (h : P.underlying t = some d) (w : World) : (underlying t).run P w = .ok d w := by
  unfold underlying; simp [Sem.run_bind, h]

theorem szOf_run {t n : Nat} (h : szOf P t = some n) (w : World) : (sizeOf t).run P w = .ok n w := by
  unfold szOf at h
  cases hi : P.info? t with
  | none => simp [hi] at h
  | some i =>
    simp [hi] at h
    simp [sizeOf, typeInfo, Sem.run_bind, hi, h]

theorem aggOf_run {t : Nat} {b : Bool} (h : aggOf P t = some b) (w : World) : (isAgg t).run P w = .ok b w := by
  unfold aggOf at h
  unfold isAgg
  cases hu : P.underlying t with
  | none => simp [hu] at h
  | some d =>
    rw [Sem.run_bind, underlying_run hu w]
    cases d <;> simp [hu] at h <;> subst h <;> rfl

/-! ### Integers and strings -/

theorem int_beq (x y : Int) : (x == y) = decide (x = y) := by
  by_cases h : x = y <;> simp [h]

theorem intOp_run {op : BinOp} {k : IntKind} {x y : Int} {r : D} {ok : Bool} (h : intOp op k x y = some (ok, r)) (hok : ok = true) (t : Nat) :
    ∃ v, (binOp op t (.int k x) (.int k y)).run P w = .ok v w ∧ Rd w G v r := by
  cases op <;> simp only [intOp, Option.some.injEq, Prod.mk.injEq, reduceCtorEq] at h <;> obtain ⟨h1, rfl⟩ := h
  case quo =>
    rw [hok] at h1
    have h0 : y ≠ 0 := by simpa using h1
    exact ⟨_, by simp only [binOp, Op.intDiv, h0, if_false, ne_eq, not_true_eq_false]; rfl, .int _ _⟩
  case rem =>
    rw [hok] at h1
    have h0 : y ≠ 0 := by simpa using h1
    exact ⟨_, by simp only [binOp, Op.intDiv, h0, if_false, ne_eq, not_true_eq_false]; rfl, .int _ _⟩
  case add => exact ⟨_, by simp only [binOp, Op.intArith, ne_eq, not_true_eq_false, if_false]; rfl, .int _ _⟩
  case sub => exact ⟨_, by simp only [binOp, Op.intArith, ne_eq, not_true_eq_false, if_false]; rfl, .int _ _⟩
  case mul => exact ⟨_, by simp only [binOp, Op.intArith, ne_eq, not_true_eq_false, if_false]; rfl, .int _ _⟩
  case and => exact ⟨_, by simp only [binOp, Op.intBits, ne_eq, not_true_eq_false, if_false]; rfl, .int _ _⟩
  case or => exact ⟨_, by simp only [binOp, Op.intBits, ne_eq, not_true_eq_false, if_false]; rfl, .int _ _⟩
  case xor => exact ⟨_, by simp only [binOp, Op.intBits, ne_eq, not_true_eq_false, if_false]; rfl, .int _ _⟩
  case andNot => exact ⟨_, by simp only [binOp, Op.intBits, ne_eq, not_true_eq_false, if_false]; rfl, .int _ _⟩
  case eql => exact ⟨.bool (x == y), by simp only [binOp, Op.intCmp, ne_eq, not_true_eq_false, if_false]; rfl, by rw [int_beq]; exact .bool _⟩
  case neq => exact ⟨.bool (x != y), by simp only [binOp, Op.intCmp, ne_eq, not_true_eq_false, if_false]; rfl, by rw [bne, int_beq]; exact .bool _⟩
  case lss => exact ⟨.bool (decide (x < y)), by simp only [binOp, Op.intCmp, ne_eq, not_true_eq_false, if_false]; rfl, .bool _⟩
  case leq => exact ⟨.bool (decide (x ≤ y)), by simp only [binOp, Op.intCmp, ne_eq, not_true_eq_false, if_false]; rfl, .bool _⟩
  case gtr => exact ⟨.bool (decide (x > y)), by simp only [binOp, Op.intCmp, ne_eq, not_true_eq_false, if_false]; rfl, .bool _⟩
  case geq => exact ⟨.bool (decide (x ≥ y)), by simp only [binOp, Op.intCmp, ne_eq, not_true_eq_false, if_false]; rfl, .bool _⟩

theorem shOp_run {op : BinOp} {k k' : IntKind} {x y : Int} {r : D} (h : shOp op k x y = some r) (hy : 0 ≤ y) (t : Nat) :
    ∃ v, (binOp op t (.int k x) (.int k' y)).run P w = .ok v w ∧ Rd w G v r := by
  have hn : ¬ y < 0 := by omega
  cases op <;> simp only [shOp, Option.some.injEq, reduceCtorEq] at h <;> subst h
  case shl => exact ⟨_, by simp only [binOp, Op.shift, hn, if_false]; rfl, .int _ _⟩
  case shr => exact ⟨_, by simp only [binOp, Op.shift, hn, if_false]; rfl, .int _ _⟩

theorem shOp_none {op : BinOp} {k : IntKind} {x y : Int} (h : shOp op k x y = none) : op ≠ .shl ∧ op ≠ .shr := by
  cases op <;> simp [shOp] at h ⊢

theorem bytesLess_eq : ∀ a b : List UInt8, Op.bytesLess a b = bytesLess a b
  | _, [] => by simp [Op.bytesLess, bytesLess]
  | [], _ :: _ => by simp [Op.bytesLess, bytesLess]
  | a :: x, b :: y => by
    simp only [Op.bytesLess, bytesLess, bytesLess_eq x y]
    congr 1

theorem beq_list (a b : List UInt8) : (a == b) = decide (a = b) := by
  by_cases h : a = b
  · simp [h]
  · simp [h]

theorem strOp_run {op : BinOp} {x y : ByteArray} {r : D} {ok : Bool} (h : strOp op x.data.toList y.data.toList = some (ok, r)) (hok : ok = true) (t : Nat) :
    ∃ v, (binOp op t (.string x) (.string y)).run P w = .ok v w ∧ Rd w G v r := by
  have hb : ∀ op', binOp op' t (.string x) (.string y) = Op.stringOp op' x y := fun op' => by cases op' <;> rfl
  rw [hb]
  cases op <;> simp only [strOp, Option.some.injEq, Prod.mk.injEq, reduceCtorEq] at h <;> obtain ⟨h1, rfl⟩ := h
  case add =>
    rw [hok] at h1
    have h2 : x.size + y.size ≤ 4611686018427387904 := by simpa [maxStr] using of_decide_eq_true h1
    refine ⟨.string (x ++ y), ?_, .str _ _ (by rw [ByteArray.data_append, Array.toList_append])⟩
    have h3 : ¬ (((x.size + y.size : Nat) : Int) > IntKind.i64.max) := by simp [IntKind.max, IntKind.signed, IntKind.bits]; omega
    simp only [Op.stringOp, h3, if_false]; rfl
  case eql => exact ⟨.bool (x.toList == y.toList), rfl, by rw [ByteArray.toList_eq, ByteArray.toList_eq, beq_list]; exact .bool _⟩
  case neq => exact ⟨.bool (!(x.toList == y.toList)), rfl, by rw [ByteArray.toList_eq, ByteArray.toList_eq, beq_list]; exact .bool _⟩
  case lss => exact ⟨.bool (Op.bytesLess x.toList y.toList), rfl, by rw [ByteArray.toList_eq, ByteArray.toList_eq, bytesLess_eq]; exact .bool _⟩
  case leq => exact ⟨.bool (Op.bytesLess x.toList y.toList || x.toList == y.toList), rfl, by rw [ByteArray.toList_eq, ByteArray.toList_eq, bytesLess_eq, beq_list]; exact .bool _⟩
  case gtr => exact ⟨.bool (!(Op.bytesLess x.toList y.toList || x.toList == y.toList)), rfl, by rw [ByteArray.toList_eq, ByteArray.toList_eq, bytesLess_eq, beq_list]; exact .bool _⟩
  case geq => exact ⟨.bool (!(Op.bytesLess x.toList y.toList)), rfl, by rw [ByteArray.toList_eq, ByteArray.toList_eq, bytesLess_eq]; exact .bool _⟩

theorem eqGuard_scalar {op : BinOp} {t : Nat} {x y : Operand} {u v : Value} (h1 : u.oneCell' = true) (h2 : u ≠ .nilIface) : (eqGuard op t x y u v).run P w = .ok () w := by
  cases u <;> first
    | (simp [Value.oneCell'] at h1; done)
    | (exact absurd rfl h2)
    | (cases op <;> rfl)

theorem sim_bi {d : Nat} {x y : Operand} {x' y' : O} {op : BinOp} {t u t1 t2 : Nat} (p : Pre n0 gl nt w G ρ lam a st) (hod : o.dst = some d) (hdt : d < nt) (hop : o.op = .binOp op t x y u) (hx : opd P t1 x = some x') (hy : opd P t2 y = some y')
    (hs : step (AP P gl) gl (.bi d op x' y') st K) : o.wp P a w (After n0 gl nt w G ρ K) Q := by
  obtain ⟨L1, h1⟩ := ev_any hx p.rel
  obtain ⟨L2, h2⟩ := ev_any hy p.rel
  have fin : ∀ {v : Value} {r : D}, (∀ z, a.eval x = z → z.oneCell' = true ∧ z ≠ .nilIface) → (binOp op t (a.eval x) (a.eval y)).run P w = .ok v w → Rd w G v r → K (st.set d (.d r)) → o.wp P a w (After n0 gl nt w G ρ K) Q := by
    intro v r hz hr hv hK
    refine p.value hod hdt (v := v) ?_ (.of_A (.d _ _ hv)) hK
    have := eqGuard_scalar (P := P) (w := w) (op := op) (t := t) (x := x) (y := y) (v := a.eval y) (hz _ rfl).1 (hz _ rfl).2
    simp only [execOp, hop, Sem.run_bind, this, Result.andThen_ok, hr, Sem.run_pure]
  simp only [step] at hs
  split at hs
  · rename_i k m k' n e1 e2
    rw [e1] at h1; rw [e2] at h2
    have v1 := h1.int
    have v2 := h2.int
    have hz : ∀ z, a.eval x = z → z.oneCell' = true ∧ z ≠ .nilIface := by intro z hz; rw [v1] at hz; subst hz; simp [Value.oneCell']
    split at hs
    · rename_i r hr
      obtain ⟨hp, hK⟩ := hs
      obtain ⟨v, hv1, hv2⟩ := shOp_run (P := P) (w := w) (G := G) (k' := k') hr (by simpa using hp) t
      exact fin hz (by rw [v1, v2]; exact hv1) hv2 hK
    · split at hs
      · rename_i ok r hr
        obtain ⟨hkk, hok, hK⟩ := hs
        obtain rfl : k = k' := by simpa using hkk
        obtain ⟨v, hv1, hv2⟩ := intOp_run (P := P) (w := w) (G := G) hr hok t
        exact fin hz (by rw [v1, v2]; exact hv1) hv2 hK
      · exact hs.elim
  · rename_i m n e1 e2
    rw [e1] at h1; rw [e2] at h2
    obtain ⟨s1, v1, rfl⟩ := h1.str
    obtain ⟨s2, v2, rfl⟩ := h2.str
    have hz : ∀ z, a.eval x = z → z.oneCell' = true ∧ z ≠ .nilIface := by intro z hz; rw [v1] at hz; subst hz; simp [Value.oneCell']
    split at hs
    · rename_i ok r hr
      obtain ⟨hok, hK⟩ := hs
      obtain ⟨v, hv1, hv2⟩ := strOp_run (P := P) (w := w) (G := G) hr hok t
      exact fin hz (by rw [v1, v2]; exact hv1) hv2 hK
    · exact hs.elim
  · exact hs.elim

theorem sim_un {d : Nat} {x : Operand} {x' : O} {op : UnOp} {t t1 : Nat} (p : Pre n0 gl nt w G ρ lam a st) (hod : o.dst = some d) (hdt : d < nt) (hop : o.op = .unOp op t x) (hx : opd P t1 x = some x')
    (hs : step (AP P gl) gl (.un d op x') st K) : o.wp P a w (After n0 gl nt w G ρ K) Q := by
  obtain ⟨L1, h1⟩ := ev_any hx p.rel
  simp only [step] at hs
  split at hs
  · rename_i b e1
    rw [e1] at h1
    have v1 := h1.bool
    exact p.value hod hdt (v := .bool (!b)) (by simp only [execOp, hop, v1, Op.unary]; rfl) (.of_A (.d _ _ (.bool _))) hs
  · rename_i k n e1
    rw [e1] at h1
    have v1 := h1.int
    exact p.value hod hdt (v := .int k (k.wrap (0 - n))) (by simp only [execOp, hop, v1, Op.unary, Op.intArith]; rfl) (.of_A (.d _ _ (.int _ _))) hs
  · rename_i k n e1
    rw [e1] at h1
    have v1 := h1.int
    exact p.value hod hdt (v := .int k (k.wrap (BitVec.ofInt k.bits (if k.signed then -1 else k.max) ^^^ BitVec.ofInt k.bits n).toNat)) (by simp only [execOp, hop, v1, Op.unary, Op.intBits]; rfl) (.of_A (.d _ _ (.int _ _))) hs
  · exact hs.elim

theorem sim_ci {d : Nat} {x : Operand} {x' : O} {s t t1 : Nat} {k k0 : IntKind} (p : Pre n0 gl nt w G ρ lam a st) (hod : o.dst = some d) (hdt : d < nt) (hop : o.op = .convert s t x) (hx : opd P t1 x = some x')
    (hu1 : P.underlying s = some (.int k0)) (hu2 : P.underlying t = some (.int k)) (hs : step (AP P gl) gl (.ci d k x') st K) : o.wp P a w (After n0 gl nt w G ρ K) Q := by
  obtain ⟨L1, h1⟩ := ev_any hx p.rel
  simp only [step] at hs
  split at hs
  · rename_i k1 n e1
    rw [e1] at h1
    have v1 := h1.int
    refine p.value hod hdt (v := .int k (k.wrap n)) ?_ (.of_A (.d _ _ (.int _ _))) hs
    simp only [execOp, hop, v1, convert, Sem.run_bind, underlying_run hu1, underlying_run hu2, Result.andThen_ok]
    rfl
  · exact hs.elim

theorem sim_cs {d : Nat} {x : Operand} {x' : O} {s t t1 : Nat} (p : Pre n0 gl nt w G ρ lam a st) (hod : o.dst = some d) (hdt : d < nt) (hop : o.op = .convert s t x) (hx : opd P t1 x = some x')
    (hu1 : P.underlying s = some .string) (hu2 : P.underlying t = some .string) {l : List UInt8} (he : ev gl st x' = .d (.str l)) (hs : step (AP P gl) gl (.mv d x') st K) : o.wp P a w (After n0 gl nt w G ρ K) Q := by
  obtain ⟨L1, h1⟩ := ev_any hx p.rel
  rw [he] at h1
  obtain ⟨s1, v1, _⟩ := h1.str
  refine p.value hod hdt (v := a.eval x) ?_ (ev_snap hx p.rel) hs
  simp only [execOp, hop, v1, convert, Sem.run_bind, underlying_run hu1, underlying_run hu2, Result.andThen_ok]
  rfl

end
end Go.Vm
end

section
/- Equality, conversions of strings, addresses, slices of slices. Conditions: none. -/
namespace Go.Vm

section
variable {P : Program} {gl : Nat → List D} {n0 nt : Nat} {a : Act} {w w' : World} {G G' : Gh} {ρ ρ' : List Nat} {lam lam' : Nat → Option Nat} {st st' : St} {K : St → Prop} {o : Oper} {Q : Exit → Act → World → Prop}

/-! ### Equality -/

theorem eqK_length : ∀ {ks : List Nat} {xs ys : List D} {r : Bool}, eqK ks xs ys = some r → xs.length = ks.length ∧ ys.length = ks.length
  | [], [], [], _, _ => ⟨rfl, rfl⟩
  | [], [], _ :: _, _, h => by simp [eqK] at h
  | [], _ :: _, _, _, h => by simp [eqK] at h
  | _ :: _, [], _, _, h => by simp [eqK] at h
  | _ :: _, _ :: _, [], _, h => by simp [eqK] at h
  | k :: ks, x :: xs, y :: ys, r, h => by
    have : ∃ r', eqK ks xs ys = some r' := by
      unfold eqK at h
      split at h
      · cases he : eqK ks xs ys <;> simp [he] at h ⊢
      · cases he : eqK ks xs ys with
        | none => rename_i i p j q; rw [he] at h; cases hd : decide (i = j) <;> simp [hd] at h
        | some r' => exact ⟨r', rfl⟩
      · cases he : eqK ks xs ys <;> simp [he] at h ⊢
      · simp at h
    obtain ⟨r', hr⟩ := this
    have := eqK_length hr
    simp [this.1, this.2]

theorem eqK_append : ∀ {k1 k2 : List Nat} {xs ys : List D} {r : Bool}, eqK (k1 ++ k2) xs ys = some r →
    ∃ r1 r2, eqK k1 (xs.take k1.length) (ys.take k1.length) = some r1 ∧ eqK k2 (xs.drop k1.length) (ys.drop k1.length) = some r2 ∧ r = (r1 && r2)
  | [], _, _, _, r, h => ⟨true, r, by simp [eqK], by simpa using h, by simp⟩
  | _ :: _, _, [], _, _, h => by simp [eqK] at h
  | _ :: _, _, _ :: _, [], _, h => by simp [eqK] at h
  | k :: k1, k2, x :: xs, y :: ys, r, h => by
    simp only [List.cons_append, List.length_cons, List.take_succ_cons, List.drop_succ_cons] at h ⊢
    unfold eqK at h
    split at h
    · rename_i p q
      cases he : eqK (k1 ++ k2) xs ys with
      | none => simp [he] at h
      | some r' =>
        obtain ⟨r1, r2, h1, h2, h3⟩ := eqK_append he
        simp only [he, Option.map_some, Option.some.injEq] at h
        exact ⟨(p == q) && r1, r2, by simp [eqK, h1], h2, by rw [← h, h3, Bool.and_assoc]⟩
    · rename_i i p j q
      cases hd : decide (i = j) with
      | false => simp [hd] at h
      | true =>
        cases he : eqK (k1 ++ k2) xs ys with
        | none => simp [hd, he] at h
        | some r' =>
          obtain ⟨r1, r2, h1, h2, h3⟩ := eqK_append he
          simp only [hd, he, cond_true, Option.map_some, Option.some.injEq] at h
          exact ⟨decide (p = q) && r1, r2, by simp [eqK, h1, hd], h2, by rw [← h, h3, Bool.and_assoc]⟩
    · rename_i p q
      cases he : eqK (k1 ++ k2) xs ys with
      | none => simp [he] at h
      | some r' =>
        obtain ⟨r1, r2, h1, h2, h3⟩ := eqK_append he
        simp only [he, Option.map_some, Option.some.injEq] at h
        exact ⟨decide (p = q) && r1, r2, by simp [eqK, h1], h2, by rw [← h, h3, Bool.and_assoc]⟩
    · simp at h

/-- What a value of a type looks like, of its cells. -/
def shaped (P : Program) (t : Nat) (vs : List Value) (v : Value) : Prop := if isStruct P t then v = .agg ⟨vs⟩ else vs = [v]

theorem isAgg_run_struct {t : Nat} {ks : List Nat} {n : Nat} (h : kinds P n t = some ks) (w : World) : (isAgg t).run P w = .ok (isStruct P t) w := by
  cases n with
  | zero => simp [kinds] at h
  | succ n =>
    unfold kinds at h
    unfold isAgg
    cases hu : P.underlying t with
    | none => simp [hu] at h
    | some d =>
      rw [Sem.run_bind, underlying_run hu w]
      simp only [hu] at h
      cases d <;> simp [isStruct, hu] at h ⊢

theorem part_run {t : Nat} {ks : List Nat} {n off : Nat} (h : kinds P n t = some ks) (hsz : szOf P t = some ks.length) (V : Array Value) (hlen : off + ks.length ≤ V.size) (hks : isStruct P t = false → ks.length = 1) (w : World) :
    ∃ v, (part t V off).run P w = .ok v w ∧ shaped P t ((V.toList.drop off).take ks.length) v := by
  unfold part
  rw [Sem.run_bind, isAgg_run_struct h w, Result.andThen_ok]
  cases hs : isStruct P t with
  | true =>
    simp only [if_true, Sem.run_bind, szOf_run hsz, Result.andThen_ok, Sem.run_pure]
    refine ⟨_, rfl, ?_⟩
    simp only [shaped, hs, if_true]
    congr 1
    apply Array.ext'
    simp
  | false =>
    have h1 := hks hs
    have hlt : off < V.size := by omega
    simp only [Bool.false_eq_true, if_false]
    have hg : V[off]? = some V[off] := by simp [hlt]
    rw [hg]
    refine ⟨_, rfl, ?_⟩
    simp only [shaped, hs, Bool.false_eq_true, if_false, h1]
    have : V.toList.drop off = V[off] :: V.toList.drop (off + 1) := by
      rw [List.drop_eq_getElem_cons (by simpa using hlt)]; simp
    rw [this]; simp

theorem kinds_one {n t : Nat} {ks : List Nat} (h : kinds P n t = some ks) (hs : isStruct P t = false) : ks.length = 1 := by
  cases n with
  | zero => simp [kinds] at h
  | succ n =>
    unfold kinds at h
    cases hu : P.underlying t with
    | none => simp [hu] at h
    | some d =>
      simp only [hu] at h
      cases d <;> simp [isStruct, hu] at h hs <;> subst h <;> rfl

theorem eqK_bool {x y : D} {r : Bool} (h : eqK [0] [x] [y] = some r) : ∃ p q, x = .bool p ∧ y = .bool q ∧ r = (p == q) := by
  cases x <;> cases y <;> simp [eqK] at h
  exact ⟨_, _, rfl, rfl, h.symm⟩

theorem eqK_int {x y : D} {r : Bool} (h : eqK [1] [x] [y] = some r) : ∃ k p q, x = .int k p ∧ y = .int k q ∧ r = decide (p = q) := by
  cases x <;> cases y <;> simp [eqK] at h
  rename_i k p k' q
  cases hd : decide (k = k') <;> simp [hd] at h
  obtain rfl : k = k' := by simpa using hd
  exact ⟨_, _, _, rfl, rfl, h.symm⟩

theorem eqK_str {x y : D} {r : Bool} (h : eqK [2] [x] [y] = some r) : ∃ p q, x = .str p ∧ y = .str q ∧ r = decide (p = q) := by
  cases x <;> cases y <;> simp [eqK] at h
  exact ⟨_, _, rfl, rfl, h.symm⟩

theorem RdL.one {v : Value} {xs : List D} (h : RdL w G [v] xs) : ∃ x, xs = [x] ∧ Rd w G v x := by
  cases h with | cons _ x _ _ h1 h2 => cases h2; exact ⟨x, rfl, h1⟩

/-- The fields of a struct, from one place on. -/
theorem eqFields_run (n d : Nat) (ih : ∀ (t : Nat) (ks : List Nat) (vs us : List Value) (xs ys : List D) (v u : Value) (r : Bool), kinds P n t = some ks → RdL w G vs xs → RdL w G us ys → shaped P t vs v → shaped P t us u → eqK ks xs ys = some r →
      (Op.equalIn d t v u).run P w = .ok r w) (V U : Array Value) :
    ∀ (fs : List Field) (off : Nat) (ks : List Nat) (xs ys : List D) (r : Bool), kindsF P (kinds P n) fs off = some ks → RdL w G (V.toList.drop off) xs → RdL w G (U.toList.drop off) ys → off ≤ V.size → off ≤ U.size → eqK ks xs ys = some r →
      (Op.eqFields d V U fs).run P w = .ok r w
  | [], off, ks, xs, ys, r, h, hv, hu, _, _, he => by
    simp only [kindsF, Option.some.injEq] at h; subst h
    obtain ⟨h1, h2⟩ := eqK_length he
    have e1 : xs = [] := by simpa using h1
    have e2 : ys = [] := by simpa using h2
    subst e1; subst e2
    simp only [eqK, Option.some.injEq] at he; subst he
    rfl
  | f :: fs, off, ks, xs, ys, r, h, hv, hu, hV, hU, he => by
    unfold kindsF at h
    split at h
    · rename_i hn
      obtain ⟨hname, hoff⟩ := hn
      cases hk : kinds P n f.type with
      | none => simp [hk] at h
      | some k1 =>
        simp only [hk] at h
        cases hf : kindsF P (kinds P n) fs (off + k1.length) with
        | none => simp [hf] at h
        | some k2 =>
          simp only [hf] at h
          split at h
          · rename_i hsz
            simp only [Option.some.injEq] at h; subst h
            obtain ⟨r1, r2, e1, e2, e3⟩ := eqK_append he
            obtain ⟨l1, l2⟩ := eqK_length he
            have lv := hv.length
            have lu := hu.length
            simp only [List.length_append, List.length_drop, Array.length_toList] at l1 l2 lv lu
            have hV2 : off + k1.length ≤ V.size := by omega
            have hU2 : off + k1.length ≤ U.size := by omega
            obtain ⟨pv, hpv, sv⟩ := part_run hk hsz V hV2 (kinds_one hk) w
            obtain ⟨pu, hpu, su⟩ := part_run hk hsz U hU2 (kinds_one hk) w
            have hr1 := ih f.type k1 _ _ _ _ pv pu r1 hk (hv.take k1.length) (hu.take k1.length) sv su e1
            have hr2 := eqFields_run n d ih V U fs (off + k1.length) k2 (xs.drop k1.length) (ys.drop k1.length) r2 hf
              (by have := hv.drop k1.length; rwa [List.drop_drop] at this) (by have := hu.drop k1.length; rwa [List.drop_drop] at this) hV2 hU2 e2
            unfold Op.eqFields
            rw [if_pos hname, hoff]
            simp only [Sem.run_bind, hpv, Result.andThen_ok, hpu, hr1, Sem.run_ite, Sem.run_pure, hr2]
            cases r1 <;> simp [e3]
          · simp at h
    · simp at h

theorem equalIn_run : ∀ (n d t : Nat) (ks : List Nat) (vs us : List Value) (xs ys : List D) (v u : Value) (r : Bool), kinds P n t = some ks → n ≤ d → RdL w G vs xs → RdL w G us ys → shaped P t vs v → shaped P t us u → eqK ks xs ys = some r →
    (Op.equalIn d t v u).run P w = .ok r w
  | 0, _, _, _, _, _, _, _, _, _, _, h, _, _, _, _, _, _ => by simp [kinds] at h
  | n + 1, 0, _, _, _, _, _, _, _, _, _, _, h, _, _, _, _, _ => absurd h (by omega)
  | n + 1, d + 1, t, ks, vs, us, xs, ys, v, u, r, h, hd, hv, hu, sv, su, he => by
    unfold kinds at h
    cases ht : P.underlying t with
    | none => simp [ht] at h
    | some desc =>
      simp only [ht] at h
      have flat : isStruct P t = false → vs = [v] ∧ us = [u] := fun hs => by
        unfold shaped at sv su
        rw [hs] at sv su
        exact ⟨by simpa using sv, by simpa using su⟩
      cases desc <;> simp only [reduceCtorEq, Option.some.injEq] at h
      case bool =>
        subst h
        obtain ⟨rfl, rfl⟩ := flat (by simp [isStruct, ht])
        obtain ⟨x, rfl, hx⟩ := hv.one
        obtain ⟨y, rfl, hy⟩ := hu.one
        obtain ⟨p, q, rfl, rfl, rfl⟩ := eqK_bool he
        cases hx; cases hy
        exact run_equalIn_bool' w d t _ _ ht
      case int k0 =>
        subst h
        obtain ⟨rfl, rfl⟩ := flat (by simp [isStruct, ht])
        obtain ⟨x, rfl, hx⟩ := hv.one
        obtain ⟨y, rfl, hy⟩ := hu.one
        obtain ⟨k, p, q, rfl, rfl, rfl⟩ := eqK_int he
        cases hx; cases hy
        rw [run_equalIn_int w d t _ _ _ _ ht, int_beq]
      case string =>
        subst h
        obtain ⟨rfl, rfl⟩ := flat (by simp [isStruct, ht])
        obtain ⟨x, rfl, hx⟩ := hv.one
        obtain ⟨y, rfl, hy⟩ := hu.one
        obtain ⟨p, q, rfl, rfl, rfl⟩ := eqK_str he
        cases hx with | str s1 _ h1 => cases hy with | str s2 _ h2 => rw [run_equalIn_string w d t _ _ ht, ByteArray.toList_eq, ByteArray.toList_eq, h1, h2, beq_list]
      case struct fs =>
        have hs : isStruct P t = true := by simp [isStruct, ht]
        unfold shaped at sv su
        rw [if_pos hs] at sv su
        subst sv
        subst su
        split at h
        · rename_i hst
          have hfo : P.fieldsOf t = fs := by simp [Program.fieldsOf, ht]
          rw [run_equalIn_struct w d t _ _ (by rw [hfo]; exact ht) hst, hfo]
          exact eqFields_run n d (fun t ks vs us xs ys v u r h1 h2 h3 h4 h5 h6 => equalIn_run n d t ks vs us xs ys v u r h1 (by omega) h2 h3 h4 h5 h6) ⟨vs⟩ ⟨us⟩ fs.toList 0 ks xs ys r h (by simpa using hv) (by simpa using hu) (by simp) (by simp) he
        · simp at h

end
end Go.Vm
end

section
/- Equality at an operation; strings and bytes; addresses; parts of slices. Conditions: none. -/
namespace Go.Vm

section
variable {P : Program} {gl : Nat → List D} {n0 nt : Nat} {a : Act} {w w' : World} {G G' : Gh} {ρ ρ' : List Nat} {lam lam' : Nat → Option Nat} {st st' : St} {K : St → Prop} {o : Oper} {Q : Exit → Act → World → Prop}

theorem Rd.cells {v : Value} {d : D} {ag : Bool} (h : Rd w G v d) (ha : isAg ag d = true) : ∃ vs, RdL w G vs d.cells ∧ (if ag then v = .agg ⟨vs⟩ else vs = [v]) ∧ (ag = false → ∀ cs, d ≠ .agg cs) := by
  cases ag with
  | true =>
    cases d <;> simp [isAg] at ha
    cases h with | agg vs cs h => exact ⟨vs, h, by simp, by simp⟩
  | false =>
    have hn : ∀ cs, d ≠ .agg cs := by rintro cs rfl; simp [isAg] at ha
    refine ⟨[v], ?_, by simp, fun _ => hn⟩
    have : d.cells = [d] := by cases d <;> first | rfl | exact absurd rfl (hn _)
    rw [this]; exact .cons _ _ _ _ h .nil

theorem equal_run {t : Nat} {ks : List Nat} {ag : Bool} {u v : Value} {x y : D} {r : Bool} (hk : kinds P 10 t = some ks) (hag : isStruct P t = ag) (hx : Rd w G u x) (hy : Rd w G v y) (a1 : isAg ag x = true) (a2 : isAg ag y = true)
    (he : eqK ks x.cells y.cells = some r) : (Op.equal t u v).run P w = .ok r w := by
  obtain ⟨vs, h1, h2, _⟩ := hx.cells a1
  obtain ⟨us, h3, h4, _⟩ := hy.cells a2
  unfold Op.equal
  exact equalIn_run 10 Op.maxDepth t ks vs us x.cells y.cells u v r hk (by decide) h1 h3 (by unfold shaped; rw [hag]; exact h2) (by unfold shaped; rw [hag]; exact h4) he

theorem sim_eq {d : Nat} {x y : Operand} {x' y' : O} {t u t1 t2 : Nat} {neg ag : Bool} {ks : List Nat} (p : Pre n0 gl nt w G ρ lam a st) (hod : o.dst = some d) (hdt : d < nt)
    (hop : o.op = .binOp (if neg then .neq else .eql) t x y u) (hx : opd P t1 x = some x') (hy : opd P t2 y = some y')
    (hk : kinds P 10 t = some ks) (hag : isStruct P t = ag) (hg : ag = true → P.eqGuardType P.depth t = false) (hb : ag = false → P.underlying t = some .bool)
    (hs : step (AP P gl) gl (.eq d neg ag ks x' y') st K) : o.wp P a w (After n0 gl nt w G ρ K) Q := by
  obtain ⟨L1, h1⟩ := ev_any hx p.rel
  obtain ⟨L2, h2⟩ := ev_any hy p.rel
  simp only [step] at hs
  split at hs
  · rename_i m n e1 e2
    obtain ⟨ha, hs⟩ := hs
    simp only [Bool.and_eq_true] at ha
    split at hs
    · rename_i r he
      have r1 := h1.toD e1
      have r2 := h2.toD e2
      have hr := equal_run (P := P) hk hag r1 r2 ha.1 ha.2 he
      refine p.value hod hdt (v := .bool (cond neg (!r) r)) ?_ (.of_A (.d _ _ (.bool _))) hs
      have hgu : (eqGuard (if neg then .neq else .eql) t x y (a.eval x) (a.eval y)).run P w = .ok () w := by
        cases hag' : ag with
        | true =>
          obtain ⟨vs, _, q1, _⟩ := r1.cells ha.1
          obtain ⟨us, _, q2, _⟩ := r2.cells ha.2
          rw [hag'] at q1 q2
          simp only [if_true] at q1 q2
          rw [q1, q2]
          unfold eqGuard
          cases neg <;> simp [Sem.run_bind, hg hag']
        | false =>
          have hbool := hb hag'
          have : ks = [0] := by
            have := hk
            unfold kinds at this
            simp only [hbool, Option.some.injEq] at this
            exact this.symm
          rw [this] at he
          have hm : m.cells = [m] := by
            rw [hag'] at ha
            cases m <;> first | rfl | simp [isAg] at ha
          have hn : n.cells = [n] := by
            rw [hag'] at ha
            cases n <;> first | rfl | simp [isAg] at ha
          rw [hm, hn] at he
          obtain ⟨b1, b2, rfl, rfl, _⟩ := eqK_bool he
          cases r1' : a.eval x <;> rw [r1'] at r1 <;> cases r1
          exact eqGuard_scalar rfl (by simp)
      have hbin : (binOp (if neg then .neq else .eql) t (a.eval x) (a.eval y)).run P w = .ok (.bool (cond neg (!r) r)) w := by
        have key : binOp .eql t (a.eval x) (a.eval y) = (Op.equal t (a.eval x) (a.eval y) >>= fun b => pure (.bool b)) ∧ binOp .neq t (a.eval x) (a.eval y) = (Op.equal t (a.eval x) (a.eval y) >>= fun b => pure (.bool (!b))) := by
          cases hag' : ag with
          | true =>
            obtain ⟨vs, _, q1, _⟩ := r1.cells ha.1
            obtain ⟨us, _, q2, _⟩ := r2.cells ha.2
            rw [hag'] at q1 q2
            simp only [if_true] at q1 q2
            rw [q1, q2]
            exact ⟨rfl, rfl⟩
          | false =>
            have hbool := hb hag'
            have : ks = [0] := by
              have := hk
              unfold kinds at this
              simp only [hbool, Option.some.injEq] at this
              exact this.symm
            rw [this] at he
            have hm : m.cells = [m] := by
              rw [hag'] at ha
              cases m <;> first | rfl | simp [isAg] at ha
            have hn : n.cells = [n] := by
              rw [hag'] at ha
              cases n <;> first | rfl | simp [isAg] at ha
            rw [hm, hn] at he
            obtain ⟨b1, b2, rfl, rfl, _⟩ := eqK_bool he
            cases r1' : a.eval x <;> rw [r1'] at r1 <;> cases r1
            cases r2' : a.eval y <;> rw [r2'] at r2 <;> cases r2
            exact ⟨rfl, rfl⟩
        cases neg
        · simp only [Bool.false_eq_true, if_false]
          rw [key.1]
          simp [hr]
        · simp only [if_true]
          rw [key.2]
          simp [hr]
      simp only [execOp, hop, Sem.run_bind, hgu, Result.andThen_ok, hbin, Sem.run_pure]
    · exact hs.elim
  · exact hs.elim

/-! ### Strings -/

theorem sim_ix {d : Nat} {x i : Operand} {x' i' : O} {t t1 t2 : Nat} (p : Pre n0 gl nt w G ρ lam a st) (hod : o.dst = some d) (hdt : d < nt) (hop : o.op = .index t x i) (hx : opd P t1 x = some x') (hi : opd P t2 i = some i')
    (hu : P.underlying t = some .string) (hs : step (AP P gl) gl (.ix d x' i') st K) : o.wp P a w (After n0 gl nt w G ρ K) Q := by
  obtain ⟨L1, h1⟩ := ev_any hx p.rel
  obtain ⟨L2, h2⟩ := ev_any hi p.rel
  simp only [step] at hs
  split at hs
  · rename_i s k n e1 e2
    rw [e1] at h1; rw [e2] at h2
    obtain ⟨s1, v1, rfl⟩ := h1.str
    have v2 := h2.int
    obtain ⟨hb, hs⟩ := hs
    simp only [Bool.and_eq_true, decide_eq_true_eq, Array.length_toList] at hb
    obtain ⟨hb1, hb2⟩ := hb
    have hlt : n.toNat < s1.size := by show n.toNat < s1.data.size; omega
    have hg : s1[n.toNat]? = some s1[n.toNat] := by simp [hlt]
    have hd : s1.data.toList.getD n.toNat 0 = s1[n.toNat] := by
      have : n.toNat < s1.data.toList.length := by simpa using hlt
      rw [List.getD_eq_getElem?_getD, List.getElem?_eq_getElem this]
      rfl
    refine p.value hod hdt (v := .int .u8 s1[n.toNat].toNat) ?_ (.of_A (.d _ _ (by rw [hd]; exact .int _ _))) hs
    simp only [execOp, hop, v1, v2, Instr.index, asIntOf, Sem.run_bind, Sem.run_pure, Result.andThen_ok, underlying_run hu, if_pos hb1, hg]
  · exact hs.elim

def BoundIs (v : Option Value) (dflt n : Nat) : Prop := (v = none ∧ n = dflt) ∨ ∃ k, v = some (.int k (n : Int))

theorem sliceBounds_run {isSlice : Bool} {len cap l h m : Nat} {lo hi mx : Option Value} (hl : BoundIs lo 0 l) (hh : BoundIs hi len h) (hm : BoundIs mx cap m) (h1 : l ≤ h) (h2 : h ≤ m) (h3 : m ≤ cap) (hx : hi = none → mx = none) :
    (Instr.sliceBounds isSlice len cap lo hi mx).run P w = .ok (l, h, m) w := by
  have sb : ∀ (k : IntKind) (n y : Nat) (c : BoundsCode), n ≤ y → (Instr.sliceBound (.int k (n : Int)) y c).run P w = .ok n w := by
    intro k n y c hn
    have h0 : 0 ≤ (n : Int) ∧ (n : Int) ≤ (y : Int) := ⟨by omega, by omega⟩
    simp [Instr.sliceBound, asIntOf, h0]
  unfold Instr.sliceBounds
  rcases hm with ⟨rfl, rfl⟩ | ⟨k1, rfl⟩
  · rcases hh with ⟨rfl, rfl⟩ | ⟨k2, rfl⟩
    · rcases hl with ⟨rfl, rfl⟩ | ⟨k3, rfl⟩
      · simp
      · simp [sb k3 l h _ h1]
    · rcases hl with ⟨rfl, rfl⟩ | ⟨k3, rfl⟩
      · simp [sb k2 h m _ h2]
      · simp [Sem.run_bind, sb k2 h m _ h2, sb k3 l h _ h1]
  · rcases hh with ⟨rfl, rfl⟩ | ⟨k2, rfl⟩
    · simp at hx
    · rcases hl with ⟨rfl, rfl⟩ | ⟨k3, rfl⟩
      · simp [Sem.run_bind, sb k1 m cap _ h3, sb k2 h m _ h2]
      · simp [Sem.run_bind, sb k1 m cap _ h3, sb k2 h m _ h2, sb k3 l h _ h1]

theorem bound_is {z : Option Operand} {z' : Option O} {dflt n : Int} (p : Pre n0 gl nt w G ρ lam a st) (hz : opdO P 0 z = some z') (hz' : bound gl st dflt z' = some n) (hn : 0 ≤ n) : BoundIs (z.map a.eval) dflt.toNat n.toNat := by
  cases z with
  | none => simp only [opdO, Option.some.injEq] at hz; subst hz; simp only [bound, Option.some.injEq] at hz'; exact .inl ⟨rfl, by rw [hz']⟩
  | some q =>
    simp only [opdO, Option.map_eq_some_iff] at hz
    obtain ⟨q', hq, rfl⟩ := hz
    obtain ⟨L, hr⟩ := ev_any hq p.rel
    simp only [bound] at hz'
    split at hz'
    · rename_i k n' e
      simp only [Option.some.injEq] at hz'; subst hz'
      rw [e] at hr
      exact .inr ⟨k, by simp [hr.int, Int.toNat_of_nonneg hn]⟩
    · simp at hz'

theorem sim_ss {d : Nat} {x : Operand} {x' : O} {lo hi : Option Operand} {lo' hi' : Option O} {t t1 : Nat} (p : Pre n0 gl nt w G ρ lam a st) (hod : o.dst = some d) (hdt : d < nt) (hop : o.op = .slice t x lo hi none) (hx : opd P t1 x = some x')
    (hl : opdO P 0 lo = some lo') (hh : opdO P 0 hi = some hi')
    (hu : P.underlying t = some .string) (hs : step (AP P gl) gl (.ss d x' lo' hi') st K) : o.wp P a w (After n0 gl nt w G ρ K) Q := by
  obtain ⟨L1, h1⟩ := ev_any hx p.rel
  simp only [step] at hs
  split at hs
  · rename_i s e1
    rw [e1] at h1
    obtain ⟨s1, v1, rfl⟩ := h1.str
    split at hs
    · rename_i l h el eh
      obtain ⟨hb, hs⟩ := hs
      simp only [Bool.and_eq_true, decide_eq_true_eq, Array.length_toList] at hb
      obtain ⟨⟨hb1, hb2⟩, hb3⟩ := hb
      have hlow := bound_is p hl el hb1
      have hhigh := bound_is p hh eh (by omega)
      simp only [Int.toNat_zero, Int.toNat_natCast, Array.length_toList] at hlow hhigh
      have hsb := sliceBounds_run (P := P) (w := w) (isSlice := false) (cap := s1.size) (m := s1.size) (mx := none) hlow (show BoundIs _ s1.size _ from hhigh) (.inl ⟨rfl, rfl⟩) (by omega) (by show h.toNat ≤ s1.data.size; omega) (Nat.le_refl _) (fun _ => rfl)
      refine p.value hod hdt (v := .string (s1.extract l.toNat h.toNat)) ?_ (.of_A (.d _ _ (.str _ _ (Lib.extract_data _ _ _)))) hs
      simp only [execOp, hop, v1, Instr.sliceAt, Instr.slice, Sem.run_bind, underlying_run hu, Result.andThen_ok, Option.map_none, Option.isSome_none, Bool.false_eq_true, if_false, hsb, Sem.run_pure]
    · exact hs.elim
  · exact hs.elim

/-! ### Slices that are read -/

theorem RelT.listS {v : Value} {x : Val} {sz : Nat} {l : List D} {L : Loc} (h : RelT w G ρ lam L v x) (hl : listS x = some (sz, l)) : Rd w G v (.list sz l) := by
  have hs := h.snap (L' := L)
  unfold Vm.listS at hl
  split at hl
  · simp only [Option.some.injEq, Prod.mk.injEq] at hl
    obtain ⟨rfl, rfl⟩ := hl
    exact hs.dat
  · simp only [Option.some.injEq, Prod.mk.injEq] at hl
    obtain ⟨rfl, rfl⟩ := hl
    exact hs.dat
  · simp at hl

theorem Rd.slice {v : Value} {sz : Nat} {l : List D} (h : Rd w G v (.list sz l)) : ∃ ad cap, v = .slice ad l.length cap ∧ l.length ≤ cap ∧ (l ≠ [] → ∃ b off vs, ad = some ⟨b, off, none⟩ ∧ (∀ d, d ∈ l → d.cells.length = sz) ∧ CellsAt w G b off vs ∧ RdL w G vs (l.flatMap D.cells)) := by
  cases h with
  | list0 ad cap _ => exact ⟨ad, cap, rfl, Nat.zero_le _, by simp⟩
  | list b off n cap _ _ vs h1 h2 h3 h4 h5 => subst h1; exact ⟨_, cap, rfl, h2, fun _ => ⟨b, off, vs, rfl, h3, h4, h5⟩⟩

theorem flatMap_len {sz : Nat} : ∀ {l : List D}, (∀ d, d ∈ l → d.cells.length = sz) → (l.flatMap D.cells).length = l.length * sz
  | [], _ => by simp
  | d :: l, h => by
    simp only [List.flatMap_cons, List.length_append, List.length_cons, h d (by simp), flatMap_len (l := l) (fun x hx => h x (by simp [hx]))]
    rw [Nat.add_mul]; omega

/-- One element's cells, among all. -/
theorem flatMap_elem {sz : Nat} : ∀ {l : List D} {i : Nat} {d : D}, (∀ d, d ∈ l → d.cells.length = sz) → l[i]? = some d → ((l.flatMap D.cells).drop (i * sz)).take sz = d.cells
  | [], i, d, _, h => by simp at h
  | x :: l, 0, d, hs, h => by
    simp only [List.getElem?_cons_zero, Option.some.injEq] at h
    subst h
    simp only [Nat.zero_mul, List.drop_zero, List.flatMap_cons]
    rw [List.take_append_of_le_length (by rw [hs x (by simp)]; exact Nat.le_refl _), List.take_of_length_le (by rw [hs x (by simp)]; exact Nat.le_refl _)]
  | x :: l, i + 1, d, hs, h => by
    simp only [List.getElem?_cons_succ] at h
    have hx := hs x (by simp)
    simp only [List.flatMap_cons]
    rw [show (i + 1) * sz = x.cells.length + i * sz by rw [hx, Nat.add_mul]; omega, List.drop_append]
    simp only [show x.cells.length + i * sz - x.cells.length = i * sz by omega]
    rw [List.drop_eq_nil_of_le (by omega), List.nil_append]
    exact flatMap_elem (fun d hd => hs d (by simp [hd])) h

theorem CellsAt.sub {b off : Nat} {vs : List Value} (h : CellsAt w G b off vs) (k n : Nat) : CellsAt w G b (off + k) ((vs.drop k).take n) := by
  intro j v hv
  rw [List.getElem?_take] at hv
  split at hv
  · rw [List.getElem?_drop] at hv
    have := h (k + j) v hv
    rwa [← Nat.add_assoc] at this
  · simp at hv

theorem sim_ia_list {d : Nat} {x i : Operand} {x' i' : O} {t e sz t1 t2 : Nat} (p : Pre n0 gl nt w G ρ lam a st) (hod : o.dst = some d) (hdt : d < nt) (hop : o.op = .indexAddr t x i) (hx : opd P t1 x = some x') (hi : opd P t2 i = some i')
    (hu : P.underlying t = some (.slice e)) (hz : szOf P e = some sz) (hpos : 0 < sz) (hs : step (AP P gl) gl (.ia d x' i' sz) st K) : o.wp P a w (After n0 gl nt w G ρ K) Q := by
  obtain ⟨L1, h1⟩ := ev_any hx p.rel
  obtain ⟨L2, h2⟩ := ev_any hi p.rel
  simp only [step] at hs
  split at hs
  · rename_i k n e2
    rw [e2] at h2
    have v2 := h2.int
    split at hs
    · rename_i j off len cap sz' e1
      rw [e1] at h1
      obtain ⟨hb, hs⟩ := hs
      simp only [Bool.and_eq_true, decide_eq_true_eq] at hb
      obtain ⟨⟨hb1, hb2⟩, hb3⟩ := hb
      have h1' : RelA w G ρ (a.eval x) (.sl j off len cap sz') := h1
      cases hv1 : a.eval x <;> rw [hv1] at h1' <;> cases h1'
      rename_i b hb
      refine p.value hod hdt (v := .pointer (some ⟨b, off + n.toNat * sz, none⟩)) ?_ (.of_A (.ptr _ _ _ hb)) hs
      simp only [execOp, hop, hv1, v2, Instr.indexAt, asIntOf, Sem.run_bind, Sem.run_pure, Result.andThen_ok, underlying_run hu, if_pos (And.intro hb2 hb3), szOf_run hz, Addr.add_mid]
    · split at hs
      · rename_i sz' l hl
        obtain ⟨hb, hs⟩ := hs
        simp only [Bool.and_eq_true, decide_eq_true_eq] at hb
        obtain ⟨⟨hb1, hb2⟩, hb3⟩ := hb
        obtain rfl : sz' = sz := Nat.eq_of_beq_eq_true hb1
        have hrd := h1.listS hl
        obtain ⟨ad, cap, v1, hcap, hrest⟩ := hrd.slice
        have hne' : l ≠ [] := by rintro rfl; simp at hb3; omega
        obtain ⟨b, off, vs, rfl, hw, hc, hr⟩ := hrest hne'
        have hlt : n.toNat < l.length := by omega
        have hget : l[n.toNat]? = some (l.getD n.toNat .nilp) := by rw [List.getD_eq_getElem?_getD, List.getElem?_eq_getElem hlt]; rfl
        have hcells := flatMap_elem hw hget
        refine p.value hod hdt (v := .pointer (some ⟨b, off + n.toNat * sz', none⟩)) ?_ (.of_A (.d _ _ ?_)) hs
        · simp only [execOp, hop, v1, v2, Instr.indexAt, asIntOf, Sem.run_bind, Sem.run_pure, Result.andThen_ok, underlying_run hu, if_pos (And.intro hb2 hb3), szOf_run hz, Addr.add_mid]
        · have := Rd.iptr (w := w) (G := G) b (off + n.toNat * sz') 0 ((vs.drop (n.toNat * sz')).take sz') _ (hc.sub _ _) ((hr.drop (n.toNat * sz')).take sz')
          rw [hcells] at this
          exact this
      · exact hs.elim
  · exact hs.elim

end
end Go.Vm
end

section
/- More operations on values. Conditions: none. -/
namespace Go.Vm

section
variable {P : Program} {gl : Nat → List D} {n0 nt : Nat} {a : Act} {w w' : World} {G G' : Gh} {ρ ρ' : List Nat} {lam lam' : Nat → Option Nat} {st st' : St} {K : St → Prop} {o : Oper} {Q : Exit → Act → World → Prop}

theorem flatMap_drop {sz : Nat} : ∀ (n : Nat) {q : List D}, (∀ d, d ∈ q → d.cells.length = sz) → (q.drop n).flatMap D.cells = (q.flatMap D.cells).drop (n * sz)
  | 0, _, _ => by simp
  | n + 1, [], _ => by simp
  | n + 1, d :: q, h => by
    have hx := h d (by simp)
    rw [List.drop_succ_cons, flatMap_drop n (fun x hx => h x (by simp [hx])), List.flatMap_cons, show (n + 1) * sz = d.cells.length + n * sz by rw [hx, Nat.add_mul]; omega, List.drop_append]
    simp only [show d.cells.length + n * sz - d.cells.length = n * sz by omega]
    rw [List.drop_eq_nil_of_le (show d.cells.length ≤ d.cells.length + n * sz by omega), List.nil_append]

theorem flatMap_take {sz : Nat} : ∀ (n : Nat) {q : List D}, (∀ d, d ∈ q → d.cells.length = sz) → (q.take n).flatMap D.cells = (q.flatMap D.cells).take (n * sz)
  | 0, _, _ => by simp
  | n + 1, [], _ => by simp
  | n + 1, d :: q, h => by
    have hx := h d (by simp)
    rw [List.take_succ_cons, List.flatMap_cons, flatMap_take n (fun x hx => h x (by simp [hx])), List.flatMap_cons, show (n + 1) * sz = d.cells.length + n * sz by rw [hx, Nat.add_mul]; omega, List.take_append]
    simp only [show d.cells.length + n * sz - d.cells.length = n * sz by omega]
    rw [List.take_of_length_le (show d.cells.length ≤ d.cells.length + n * sz by omega)]

theorem sim_sl {d : Nat} {x : Operand} {x' : O} {lo hi mx : Option Operand} {lo' hi' mx' : Option O} {t t1 e sz0 : Nat} (p : Pre n0 gl nt w G ρ lam a st) (hod : o.dst = some d) (hdt : d < nt) (hop : o.op = .slice t x lo hi mx) (hx : opd P t1 x = some x')
    (hl : opdO P 0 lo = some lo') (hh : opdO P 0 hi = some hi') (hm : opdO P 0 mx = some mx') (hmh : hi = none → mx = none)
    (hu : P.underlying t = some (.slice e)) (hz : szOf P e = some sz0) (hs : step (AP P gl) gl (.sl d sz0 x' lo' hi' mx') st K) : o.wp P a w (After n0 gl nt w G ρ K) Q := by
  obtain ⟨L1, h1⟩ := ev_any hx p.rel
  simp only [step] at hs
  split at hs
  · rename_i sz s e1
    split at hs
    · rename_i l h m el eh em
      obtain ⟨hb, hs⟩ := hs
      simp only [Bool.and_eq_true, decide_eq_true_eq] at hb
      obtain ⟨⟨⟨⟨hb0, hb1⟩, hb2⟩, hb3⟩, hb4⟩ := hb
      obtain rfl : sz = sz0 := Nat.eq_of_beq_eq_true hb0
      have hrd := h1.listS e1
      obtain ⟨ad, cap, v1, hcap, hrest⟩ := hrd.slice
      have hlow := bound_is p hl el hb1
      have hhigh := bound_is p hh eh (by omega)
      have hmax := bound_is p hm em (by omega)
      simp only [Int.toNat_zero, Int.toNat_natCast] at hlow hhigh hmax
      -- where no maximum is told the capacity is what it is
      obtain ⟨m2, hm2, hle, hcapm⟩ : ∃ m2, BoundIs (mx.map a.eval) cap m2 ∧ h.toNat ≤ m2 ∧ m2 ≤ cap := by
        rcases hmax with ⟨h0, h1⟩ | ⟨k, hk⟩
        · exact ⟨cap, .inl ⟨h0, rfl⟩, by omega, Nat.le_refl _⟩
        · exact ⟨m.toNat, .inr ⟨k, hk⟩, by omega, by omega⟩
      have hsb := sliceBounds_run (P := P) (w := w) (isSlice := true) (cap := cap) hlow hhigh hm2 (by omega) hle hcapm (by intro h0; cases hi with | none => rw [hmh rfl]; rfl | some q => simp at h0)
      have hval : Rd w G (.slice (if m2 = l.toNat then ad else ad.map (·.add (l.toNat * sz))) (h.toNat - l.toNat) (m2 - l.toNat)) (.list sz ((s.drop l.toNat).take (h.toNat - l.toNat))) := by
        by_cases hlen : h.toNat - l.toNat = 0
        · rw [hlen, List.take_zero]; exact .list0 _ _ _
        · have hne : s ≠ [] := by rintro rfl; simp at hb4; omega
          obtain ⟨b, off, vs, rfl, hw, hc, hr⟩ := hrest hne
          have hm2l : m2 ≠ l.toNat := by omega
          rw [if_neg hm2l]
          simp only [Option.map_some, Addr.add_mid]
          have hfl : ((s.drop l.toNat).take (h.toNat - l.toNat)).flatMap D.cells = ((s.flatMap D.cells).drop (l.toNat * sz)).take ((h.toNat - l.toNat) * sz) := by
            rw [flatMap_take _ (fun d hd => hw d (List.mem_of_mem_drop hd)), flatMap_drop _ hw]
          refine .list b (off + l.toNat * sz) _ _ sz _ ((vs.drop (l.toNat * sz)).take ((h.toNat - l.toNat) * sz)) ?_ (by omega) ?_ (hc.sub _ _) ?_
          · rw [List.length_take, List.length_drop]; omega
          · intro d hd; exact hw d (List.mem_of_mem_drop (List.mem_of_mem_take hd))
          · rw [hfl]; exact (hr.drop _).take _
      refine p.value hod hdt (v := .slice (if m2 = l.toNat then ad else ad.map (·.add (l.toNat * sz))) (h.toNat - l.toNat) (m2 - l.toNat)) ?_ (.of_A (.d _ _ hval)) hs
      simp only [execOp, hop, v1, Instr.sliceAt, Instr.slice, Sem.run_bind, underlying_run hu, Result.andThen_ok, hsb, Sem.run_pure, szOf_run hz]
    · exact hs.elim
  · exact hs.elim

theorem sim_em {d : Nat} {x : Operand} {x' : O} {hi mx : Operand} {t t1 e sz0 : Nat} (p : Pre n0 gl nt w G ρ lam a st) (hod : o.dst = some d) (hdt : d < nt) (hop : o.op = .slice t x none (some hi) (some mx)) (hx : opd P t1 x = some x')
    (hh : ∃ k, a.eval hi = .int k 0) (hm : ∃ k, a.eval mx = .int k 0)
    (hu : P.underlying t = some (.slice e)) (hz : szOf P e = some sz0) (hs : step (AP P gl) gl (.em d x') st K) : o.wp P a w (After n0 gl nt w G ρ K) Q := by
  obtain ⟨L1, h1⟩ := ev_any hx p.rel
  simp only [step] at hs
  split at hs
  · rename_i sz s e1
    have hrd := h1.listS e1
    obtain ⟨ad, cap, v1, hcap, hrest⟩ := hrd.slice
    obtain ⟨k1, hk1⟩ := hh
    obtain ⟨k2, hk2⟩ := hm
    have hsb := sliceBounds_run (P := P) (w := w) (isSlice := true) (len := s.length) (cap := cap) (lo := none) (hi := some (a.eval hi)) (mx := some (a.eval mx)) (l := 0) (h := 0) (m := 0) (.inl ⟨rfl, rfl⟩) (.inr ⟨k1, by rw [hk1]; rfl⟩) (.inr ⟨k2, by rw [hk2]; rfl⟩) (Nat.le_refl _) (Nat.le_refl _) (Nat.zero_le _) (by simp)
    refine p.value hod hdt (v := .slice ad 0 0) ?_ (.of_A (.nil _ _)) hs
    simp only [execOp, hop, v1, Instr.sliceAt, Instr.slice, Sem.run_bind, underlying_run hu, Result.andThen_ok, Option.map_none, Option.map_some, hsb, Sem.run_pure, szOf_run hz, if_true, Nat.sub_self]
  · exact hs.elim

theorem sim_ln {d : Nat} {x : Operand} {x' : O} {t t1 : Nat} {str : Bool} (p : Pre n0 gl nt w G ρ lam a st) (hod : o.dst = some d) (hdt : d < nt) (hop : o.op = .call { callee := .builtin .len, args := #[x], argTypes := #[t] }) (hx : opd P t1 x = some x')
    (hu : if str then P.underlying t = some .string else ∃ e, P.underlying t = some (.slice e)) (hs : step (AP P gl) gl (.ln d str x') st K) : o.wp P a w (After n0 gl nt w G ρ K) Q := by
  obtain ⟨L1, h1⟩ := ev_any hx p.rel
  have hexec : ∀ n : Nat, (Builtin.len_ #[t] o.type #[a.eval x]).run P w = .ok (.int .i64 n) w → (execOp a.eval o).run P w = .ok (.value (.int .i64 n)) w := by
    intro n hn
    simp only [execOp, hop, resolve, Sem.run_bind, Sem.run_pure, Result.andThen_ok, invoke, builtin, List.map_toArray, List.map_cons, List.map_nil, hn]
  simp only [step] at hs
  split at hs
  · rename_i j off len cap sz e1
    obtain ⟨hb, hs⟩ := hs
    cases str <;> simp at hb
    obtain ⟨e, hu⟩ := hu
    rw [e1] at h1
    have h1' : RelA w G ρ (a.eval x) (.sl j off len cap sz) := h1
    cases hv1 : a.eval x <;> rw [hv1] at h1' <;> cases h1'
    exact p.value hod hdt (hexec len (by simp [Builtin.len_, hv1, underlying_run hu, Sem.run_bind, goInt])) (.of_A (.d _ _ (.int _ _))) hs
  · rename_i s e1
    obtain ⟨hb, hs⟩ := hs
    subst hb
    rw [e1] at h1
    obtain ⟨s1, v1, rfl⟩ := h1.str
    exact p.value hod hdt (hexec s1.size (by simp [Builtin.len_, v1, underlying_run hu, Sem.run_bind, goInt])) (.of_A (.d _ _ (.int _ _))) hs
  · split at hs
    · rename_i sz l e1
      obtain ⟨hb, hs⟩ := hs
      cases str <;> simp at hb
      obtain ⟨e, hu⟩ := hu
      have hrd := h1.listS e1
      obtain ⟨ad, cap, v1, hcap, _⟩ := hrd.slice
      exact p.value hod hdt (hexec l.length (by simp [Builtin.len_, v1, underlying_run hu, Sem.run_bind, goInt])) (.of_A (.d _ _ (.int _ _))) hs
    · exact hs.elim

theorem sim_ex {d i : Nat} {x : Operand} {x' : O} {t1 : Nat} (p : Pre n0 gl nt w G ρ lam a st) (hod : o.dst = some d) (hdt : d < nt) (hop : o.op = .extract x i) (hx : opd P t1 x = some x')
    (hs : step (AP P gl) gl (.ex d x' i) st K) : o.wp P a w (After n0 gl nt w G ρ K) Q := by
  obtain ⟨L1, h1⟩ := ev_any hx p.rel
  simp only [step] at hs
  split at hs
  · rename_i vs e1
    obtain ⟨hb, hs⟩ := hs
    rw [e1] at h1
    have h1' : RelA w G ρ (a.eval x) (.tuple vs) := h1
    cases hv1 : a.eval x <;> rw [hv1] at h1' <;> cases h1'
    rename_i us hus
    have hlt : i < vs.length := by simpa [Nat.blt_eq] using hb
    have hul : i < us.length := by rw [hus.length]; exact hlt
    have hg : (⟨us⟩ : Array Value)[i]? = some us[i] := by simp [hul]
    refine p.value hod hdt (v := us[i]) ?_ (.of_A ?_) hs
    · simp only [execOp, hop, hv1, Instr.extract, hg, Sem.run_bind, Sem.run_pure, Result.andThen_ok]
    · have : vs[i]? = some (vs.getD i .undef) := by rw [List.getD_eq_getElem?_getD, List.getElem?_eq_getElem hlt]; rfl
      exact hus.get (by simp [hul]) this
  · exact hs.elim

theorem sim_fa {d f : Nat} {x : Operand} {x' : O} {t t1 n : Nat} {fs : Array Field} {fl : Field} (p : Pre n0 gl nt w G ρ lam a st) (hod : o.dst = some d) (hdt : d < nt) (hop : o.op = .fieldAddr t x f) (hx : opd P t1 x = some x')
    (hu : P.underlying t = some (.struct fs)) (hf : fs[f]? = some fl) (hz : szOf P fl.type = some n) (hpos : 0 < n) (hs : step (AP P gl) gl (.fa d x' fl.offset) st K) : o.wp P a w (After n0 gl nt w G ρ K) Q := by
  obtain ⟨L1, h1⟩ := ev_any hx p.rel
  have hexec : ∀ b off, a.eval x = .pointer (some ⟨b, off, none⟩) → (execOp a.eval o).run P w = .ok (.value (.pointer (some ⟨b, off + fl.offset, none⟩))) w := by
    intro b off hv
    have hn : ¬ n = 0 := by omega
    simp only [execOp, hop, Instr.fieldAt, Sem.run_bind, underlying_run hu, Result.andThen_ok, hf, hv, Instr.sureAddr, Sem.run_pure, fieldPlace, szOf_run hz, Sem.run_ite, if_neg hn, Addr.add_mid]
  simp only [step] at hs
  split at hs
  · rename_i i off e1
    rw [e1] at h1
    have h1' : RelA w G ρ (a.eval x) (.ptr i off) := h1
    cases hv1 : a.eval x <;> rw [hv1] at h1' <;> cases h1'
    rename_i b hb
    exact p.value hod hdt (hexec _ _ hv1) (.of_A (.ptr _ _ _ hb)) hs
  · rename_i s off e1
    rw [e1] at h1
    obtain ⟨b, hb, hv1⟩ := h1
    exact p.value hod hdt (hexec _ _ hv1) (show RelT w G ρ lam _ _ (.lref s (off + fl.offset)) from ⟨b, hb, rfl⟩) hs
  · rename_i cs off e1
    rw [e1] at h1
    have h1' := h1.dat
    cases hv1 : a.eval x <;> rw [hv1] at h1' <;> cases h1'
    rename_i b base vs hc hr
    exact p.value hod hdt (hexec _ _ hv1) (.of_A (.d _ _ (by rw [Nat.add_assoc]; exact .iptr _ _ _ _ _ hc hr))) hs
  · exact hs.elim

theorem sim_aa {d : Nat} {x i : Operand} {x' i' : O} {t t1 t2 e len n : Nat} (p : Pre n0 gl nt w G ρ lam a st) (hod : o.dst = some d) (hdt : d < nt) (hop : o.op = .indexAddr t x i) (hx : opd P t1 x = some x') (hi : opd P t2 i = some i')
    (hu : P.underlying t = some (.array len e)) (hz : szOf P e = some n) (hs : step (AP P gl) gl (.aa d x' i' len n) st K) : o.wp P a w (After n0 gl nt w G ρ K) Q := by
  obtain ⟨L1, h1⟩ := ev_any hx p.rel
  obtain ⟨L2, h2⟩ := ev_any hi p.rel
  simp only [step] at hs
  split at hs
  · rename_i k z e2
    rw [e2] at h2
    have v2 := h2.int
    obtain ⟨hb, hs⟩ := hs
    simp only [Bool.and_eq_true, decide_eq_true_eq] at hb
    have hexec : ∀ b off, a.eval x = .pointer (some ⟨b, off, none⟩) → (execOp a.eval o).run P w = .ok (.value (.pointer (some ⟨b, off + z.toNat * n, none⟩))) w := by
      intro b off hv
      simp only [execOp, hop, Instr.indexAt, asIntOf, v2, Sem.run_bind, Sem.run_pure, underlying_run hu, Result.andThen_ok, hv, Instr.sureAddr, Sem.run_ite, if_pos (And.intro hb.1 hb.2), szOf_run hz, Addr.add_mid]
    split at hs
    · rename_i j off e1
      rw [e1] at h1
      have h1' : RelA w G ρ (a.eval x) (.ptr j off) := h1
      cases hv1 : a.eval x <;> rw [hv1] at h1' <;> cases h1'
      rename_i b hb'
      exact p.value hod hdt (hexec _ _ hv1) (.of_A (.ptr _ _ _ hb')) hs
    · rename_i s off e1
      rw [e1] at h1
      obtain ⟨b, hb', hv1⟩ := h1
      exact p.value hod hdt (hexec _ _ hv1) (show RelT w G ρ lam _ _ (.lref s (off + z.toNat * n)) from ⟨b, hb', rfl⟩) hs
    · rename_i cs off e1
      rw [e1] at h1
      have h1' := h1.dat
      cases hv1 : a.eval x <;> rw [hv1] at h1' <;> cases h1'
      rename_i b base vs hc hr
      exact p.value hod hdt (hexec _ _ hv1) (.of_A (.d _ _ (by rw [Nat.add_assoc]; exact .iptr _ _ _ _ _ hc hr))) hs
    · exact hs.elim
  · exact hs.elim

theorem sim_nc {d : Nat} {x : Operand} {x' : O} {t1 : Nat} (p : Pre n0 gl nt w G ρ lam a st) (hod : o.dst = some d) (hdt : d < nt) (hop : o.op = .nilCheck x) (hx : opd P t1 x = some x')
    (hs : step (AP P gl) gl (.nc d x') st K) : o.wp P a w (After n0 gl nt w G ρ K) Q := by
  obtain ⟨L1, h1⟩ := ev_any hx p.rel
  simp only [step] at hs
  split at hs
  · rename_i i off e1
    rw [e1] at h1
    have h1' : RelA w G ρ (a.eval x) (.ptr i off) := h1
    cases hv1 : a.eval x <;> rw [hv1] at h1' <;> cases h1'
    rename_i b hb
    exact p.value hod hdt (by simp only [execOp, hop, hv1]; rfl) (.of_A (.ptr _ _ _ hb)) hs
  · rename_i s off e1
    rw [e1] at h1
    obtain ⟨b, hb, hv1⟩ := h1
    exact p.value hod hdt (by simp only [execOp, hop, hv1]; rfl) (show RelT w G ρ lam _ _ (.lref s off) from ⟨b, hb, rfl⟩) hs
  · rename_i cs off e1
    rw [e1] at h1
    have h1' := h1.dat
    cases hv1 : a.eval x <;> rw [hv1] at h1' <;> cases h1'
    rename_i b base vs hc hr
    exact p.value hod hdt (by simp only [execOp, hop, hv1]; rfl) (.of_A (.d _ _ (.iptr _ _ _ _ _ hc hr))) hs
  · rename_i f e1
    rw [e1] at h1
    have h1' := h1.dat
    cases hv1 : a.eval x <;> rw [hv1] at h1' <;> cases h1'
    exact p.value hod hdt (by simp only [execOp, hop, hv1]; rfl) (.of_A (.d _ _ (.fn _))) hs
  · rename_i f as cs e1
    rw [e1] at h1
    have h1' : RelA w G ρ (a.eval x) (.func f as cs) := h1
    cases hv1 : a.eval x <;> rw [hv1] at h1' <;> cases h1'
    rename_i us vs h3 h4
    exact p.value hod hdt (by simp only [execOp, hop, hv1]; rfl) (.of_A (.func _ _ _ _ _ h3 h4)) hs
  · exact hs.elim

theorem sim_mn {d : Nat} {x y : Operand} {x' y' : O} {lt : Bool} {ts : Array TypeId} {t1 t2 : Nat} (p : Pre n0 gl nt w G ρ lam a st) (hod : o.dst = some d) (hdt : d < nt) (hop : o.op = .call { callee := .builtin (if lt then .min else .max), args := #[x, y], argTypes := ts }) (hx : opd P t1 x = some x') (hy : opd P t2 y = some y')
    (hs : step (AP P gl) gl (.mn d lt x' y') st K) : o.wp P a w (After n0 gl nt w G ρ K) Q := by
  obtain ⟨L1, h1⟩ := ev_any hx p.rel
  obtain ⟨L2, h2⟩ := ev_any hy p.rel
  simp only [step] at hs
  split at hs
  · rename_i k m k' n e1 e2
    rw [e1] at h1; rw [e2] at h2
    have v1 := h1.int
    have v2 := h2.int
    obtain ⟨hkk, hs⟩ := hs
    refine p.value hod hdt (v := .int k (cond (cond lt (decide (n < m)) (decide (m < n))) n m)) ?_ (.of_A (.d _ _ (.int _ _))) hs
    cases lt
    · simp only [execOp, hop, resolve, Sem.run_bind, Sem.run_pure, Result.andThen_ok, invoke, builtin, List.map_toArray, List.map_cons, List.map_nil, v1, v2, Bool.false_eq_true, if_false, Builtin.max_, List.foldlM_cons, List.foldlM_nil, Builtin.max2]
      by_cases h : m < n <;> simp [h]
    · simp only [execOp, hop, resolve, Sem.run_bind, Sem.run_pure, Result.andThen_ok, invoke, builtin, List.map_toArray, List.map_cons, List.map_nil, v1, v2, if_true, Builtin.min_, List.foldlM_cons, List.foldlM_nil, Builtin.min2]
      by_cases h : n < m <;> simp [h]
  · exact hs.elim

end
end Go.Vm
end

section
/- New blocks, and writes into blocks. Conditions: none. -/
namespace Go.Vm

section
variable {P : Program} {gl : Nat → List D} {n0 nt : Nat} {a : Act} {w w' : World} {G G' : Gh} {ρ ρ' : List Nat} {lam lam' : Nat → Option Nat} {st st' : St} {K : St → Prop} {o : Oper} {Q : Exit → Act → World → Prop}

theorem cell_block {b off : Nat} {v : Value} (h : w.cell? ⟨b, off, none⟩ = some v) : b < w.heap.size := by
  unfold World.cell? at h
  rcases Nat.lt_or_ge b w.heap.size with hlt | hge
  · exact hlt
  · simp [Array.getElem?_eq_none hge] at h

theorem cell_congr {b off : Nat} (h : w'.heap[b]? = w.heap[b]?) : w'.cell? ⟨b, off, none⟩ = w.cell? ⟨b, off, none⟩ := by
  unfold World.cell?
  rw [show ((⟨b, off, none⟩ : Addr).block) = b from rfl, h]

theorem cell_of_block {b j : Nat} {c : Array Value} {E : TypeId} {fz : Nat × Nat} (h : w.heap[b]? = some (.cells c E fz)) : w.cell? ⟨b, j, none⟩ = c[j]? := by
  unfold World.cell?
  rw [show ((⟨b, j, none⟩ : Addr).block) = b from rfl, h]
  rfl

theorem frozen_of_block {b j : Nat} {c : Array Value} {E : TypeId} {fz : Nat × Nat} (h : w.heap[b]? = some (.cells c E fz)) : w.frozen? ⟨b, j, none⟩ = (decide (fz.1 ≤ j) && decide (j < fz.2)) := by
  unfold World.frozen?
  rw [show ((⟨b, j, none⟩ : Addr).block) = b from rfl, h]

/-- A heap that has grown by one block. -/
structure Grew (w : World) (ob : Obj) (w' : World) : Prop where
  heap : w'.heap = w.heap.push ob
  os : w'.os = w.os := by rfl
  out : w'.output = w.output := by rfl

def newG (w : World) (G : Gh) (L : Loc) (n : Nat) : Gh := upd G w.heap.size (some (L, n))

section
variable {ob : Obj} {L0 : Loc} {n0 : Nat} (hw : Grew w ob w') (hlt : ∀ b L n, G b = some (L, n) → b < w.heap.size)
 include hw

theorem Grew.old {b : Nat} (hb : b < w.heap.size) : w'.heap[b]? = w.heap[b]? := by
  rw [hw.heap, Array.getElem?_push]; simp [Nat.ne_of_lt hb]
theorem Grew.new : w'.heap[w.heap.size]? = some ob := by rw [hw.heap, Array.getElem?_push]; simp
theorem Grew.size : w'.heap.size = w.heap.size + 1 := by rw [hw.heap]; simp
theorem Grew.keeps : Keeps w G w' (newG w G L0 n0) := by
  intro b off v h
  have hb := cell_block h.1
  refine ⟨by rw [cell_congr (hw.old hb)]; exact h.1, ?_, h.2.2⟩
  intro L n hG
  rw [newG, upd_ne _ _ (Nat.ne_of_lt hb)] at hG
  exact h.2.1 _ _ hG
 include hlt
theorem Grew.same (L : Loc) : SameL L L w G w' (newG w G L0 n0) := fun b n h => by
  have hb := hlt _ _ _ h
  exact ⟨hw.old hb, by rw [newG, upd_ne _ _ (Nat.ne_of_lt hb)]; exact h⟩
theorem Grew.good (h0 : L0 ≠ .foreign) : Good w G w' (newG w G L0 n0) where
  size := by rw [hw.size]; omega
  imm b hb _ := ⟨hw.old hb, by rw [newG, upd_ne _ _ (Nat.ne_of_lt hb)]⟩
  new b n hb hG := by
    rw [newG, upd_eq] at hG
    split at hG
    · simp only [Option.some.injEq, Prod.mk.injEq] at hG; exact h0 hG.1
    · exact absurd (hlt _ _ _ hG) (Nat.not_lt.2 hb)
  old b n hb hG := by rw [newG, upd_ne _ _ (Nat.ne_of_lt hb)] at hG; exact hG
  keep := hw.keeps
  os := hw.os
  out := hw.out
theorem Grew.lt : ∀ b L n, newG w G L0 n0 b = some (L, n) → b < w'.heap.size := fun b L n h => by
  rw [newG, upd_eq] at h
  rw [hw.size]
  split at h
  · omega
  · have := hlt _ _ _ h; omega
/-- The frame and the objects stay. -/
theorem Grew.rel {tmps : Array Value} (h : RelS gl w G ρ lam tmps st) : RelS gl w' (newG w G L0 n0) ρ lam tmps st where
  tm t := (h.tm t).tr hw.keeps (fun _ _ h => h) (fun _ _ h => h) (hw.same hlt _)
  bx t cs hb := by
    obtain ⟨b, h1, h2⟩ := h.bx t cs hb
    exact ⟨b, h1, RelBox.tr hw.keeps (fun _ _ h => h) (hw.same hlt _) (fun _ => hw.same hlt _) h2⟩
  nb := h.nb
  ob := h.ob.tr hw.keeps (fun _ => hw.same hlt _) (fun _ _ => hw.same hlt _)
  gb := h.gb.tr hw.keeps
  lt := hw.lt hlt
end

/-- Values that are in no place of their own make a new box. -/
theorem new_box {cs : List Val} {vs : List Value} {L0 : Loc} {LC : Nat → Loc} {E : TypeId} (hw : Grew w (.cells ⟨vs⟩ E) w') (hr : RelL w G ρ vs cs) :
    RelBox w' (newG w G L0 0) ρ w.heap.size L0 LC cs :=
  ⟨⟨vs⟩, E, (0, 0), hw.new, by simp, by rw [newG, upd_self], by simpa using hr.length, fun j v x hv hx => .of_A ((hr.get (by simpa using hv) hx).keep hw.keeps fun _ _ h => h)⟩

/-- A new local box. -/
theorem RelS.newLocal {d : Nat} {cs : List Val} {vs : List Value} {E : TypeId} (h : RelS gl w G ρ lam a.tmps st) (hw : Grew w (.cells ⟨vs⟩ E) w') (hr : RelL w G ρ vs cs) (hd : d < a.tmps.size) (hb : st.bx d = none) :
    RelS gl w' (newG w G (.bbox d) 0) ρ (upd lam d (some w.heap.size)) (a.tmps.setIfInBounds d (.pointer (some ⟨w.heap.size, 0, none⟩))) ((st.setB d cs).set d (.lref d 0)) := by
  have hlam : ∀ t b, lam t = some b → upd lam d (some w.heap.size) t = some b := by
    intro t b ht
    by_cases hd' : t = d
    · subst hd'; rw [h.nb _ hb] at ht; simp at ht
    · rw [upd_ne _ _ hd']; exact ht
  have h0 := hw.rel (L0 := .bbox d) (n0 := 0) h.lt h
  refine RelS.set (st := st.setB d cs) ⟨fun t => ?_, ?_, ?_, h0.ob, h0.gb, h0.lt⟩ hd ⟨w.heap.size, upd_self _ _ _, rfl⟩
  · exact (h0.tm t).tr (Keeps.refl _ _) (fun _ _ h => h) hlam (fun b n h => ⟨rfl, h⟩)
  · intro t cs' ht
    simp only [St.setB, upd_eq] at ht
    by_cases htd : t = d
    · subst htd
      simp only [if_true, Option.some.injEq] at ht
      subst ht
      exact ⟨w.heap.size, upd_self _ _ _, new_box hw hr⟩
    · simp only [htd, if_false] at ht
      obtain ⟨b, h1, h2⟩ := h0.bx t cs' ht
      exact ⟨b, hlam _ _ h1, h2⟩
  · intro t ht
    simp only [St.setB, upd_eq] at ht
    by_cases htd : t = d
    · simp [htd] at ht
    · simp only [htd, if_false] at ht
      rw [upd_ne _ _ htd]; exact h0.nb t ht

theorem getElem?_snoc {α : Type} {l : List α} {x y : α} {i : Nat} (h : (l ++ [x])[i]? = some y) : l[i]? = some y ∨ (i = l.length ∧ x = y) := by
  rcases Nat.lt_or_ge i l.length with hl | hl
  · rw [List.getElem?_append_left hl] at h; exact .inl h
  · rw [List.getElem?_append_right hl] at h
    right
    have : i - l.length = 0 := by
      rcases Nat.eq_zero_or_pos (i - l.length) with h0 | h0
      · exact h0
      · rw [List.getElem?_eq_none (by simp; omega)] at h; simp at h
    rw [this] at h
    exact ⟨by omega, by simpa using h⟩

/-- A new object. -/
theorem RelS.newObj {d : Nat} {cs : List Val} {vs : List Value} {E : TypeId} (h : RelS gl w G ρ lam a.tmps st) (hw : Grew w (.cells ⟨vs⟩ E) w') (hr : RelL w G ρ vs cs) (hd : d < a.tmps.size) :
    RelS gl w' (newG w G (.obj st.s.length) 0) (ρ ++ [w.heap.size]) lam (a.tmps.setIfInBounds d (.pointer (some ⟨w.heap.size, 0, none⟩))) ({ st with s := st.s ++ [Ob.box cs] }.set d (.ptr st.s.length 0)) := by
  have hρ : ∀ i b : Nat, ρ[i]? = some b → (ρ ++ [w.heap.size])[i]? = some b := by
    intro i b hi
    have hl : i < ρ.length := by
      rcases Nat.lt_or_ge i ρ.length with h' | h'
      · exact h'
      · rw [List.getElem?_eq_none h'] at hi; simp at hi
    rw [List.getElem?_append_left hl]; exact hi
  have h0 := hw.rel (L0 := .obj st.s.length) (n0 := 0) h.lt h
  have hk := hw.keeps (G := G) (L0 := .obj st.s.length) (n0 := 0)
  refine RelS.set (st := { st with s := st.s ++ [Ob.box cs] }) ⟨fun t => ?_, ?_, h0.nb, ⟨by simp [h.ob.1], ?_⟩, h0.gb, h0.lt⟩ hd (.of_A (.ptr _ _ _ (by rw [← h.ob.1]; simp)))
  · exact (h0.tm t).tr (Keeps.refl _ _) hρ (fun _ _ h => h) (fun b n h => ⟨rfl, h⟩)
  · intro t cs' ht
    obtain ⟨b, h1, h2⟩ := h0.bx t cs' ht
    exact ⟨b, h1, RelBox.tr (Keeps.refl _ _) hρ (fun b n h => ⟨rfl, h⟩) (fun j b n h => ⟨rfl, h⟩) h2⟩
  · intro i b o hb ho
    rcases getElem?_snoc hb with hb' | ⟨hi, rfl⟩
    · have hil : i < st.s.length := by
        rw [← h.ob.1]
        rcases Nat.lt_or_ge i ρ.length with h' | h'
        · exact h'
        · rw [List.getElem?_eq_none h'] at hb'; simp at hb'
      rw [List.getElem?_append_left hil] at ho
      exact (h0.ob.2 i b o hb' ho).tr (Keeps.refl _ _) hρ (fun b n h => ⟨rfl, h⟩) (fun j b n h => ⟨rfl, h⟩)
    · have hi' : i = st.s.length := by rw [← h.ob.1]; exact hi
      subst hi'
      rw [List.getElem?_append_right (Nat.le_refl _)] at ho
      simp at ho
      subst ho
      exact RelBox.tr (Keeps.refl _ _) hρ (fun b n h => ⟨rfl, h⟩) (fun j b n h => ⟨rfl, h⟩) (new_box (LC := .ocell st.s.length) hw hr)

theorem zeros_spec {t : Nat} {z : List Val} (h : zeros P t = some z) : ∃ i v, P.info? t = some i ∧ i.zero = some v ∧ v.cells.size = z.length ∧ i.size = z.length ∧ ∀ {w G ρ}, RelL w G ρ v.cells.toList z := by
  unfold zeros at h
  simp only [Option.bind_eq_bind] at h
  cases h1 : zerosOf P 20 t with
  | none => simp [h1] at h
  | some cs =>
    cases h2 : P.info? t with
    | none => simp [h1, h2] at h
    | some i =>
      cases h3 : i.zero with
      | none => simp [h1, h2, h3] at h
      | some v =>
        simp only [h1, h2, h3, Option.bind_some] at h
        split at h
        · rename_i hc
          simp only [Option.some.injEq] at h
          subst h
          simp only [Bool.and_eq_true, decide_eq_true_eq] at hc
          exact ⟨i, v, rfl, h3, hc.1.1, hc.1.2, cellsRel_L (by simpa using hc.1.1) hc.2⟩
        · simp at h

theorem zeroValue_run {t : Nat} {i : TypeInfo} {v : Value} (h : P.info? t = some i) (hz : i.zero = some v) (w : World) : (zeroValue t).run P w = .ok v w := by
  simp [zeroValue, typeInfo, Sem.run_bind, h, hz]

theorem sim_la {d e : Nat} {z : List Val} (p : Pre n0 gl nt w G ρ lam a st) (hod : o.dst = some d) (hdt : d < nt) (hop : o.op = .alloc e) (hz : zeros P e = some z)
    (hs : step (AP P gl) gl (.la d z) st K) : o.wp P a w (After n0 gl nt w G ρ K) Q := by
  obtain ⟨i, v, h1, h2, h3, h4, h5⟩ := zeros_spec hz
  simp only [step] at hs
  split at hs
  · rename_i hb
    have hr : (execOp a.eval o).run P w = .ok (.value (.pointer (some ⟨w.heap.size, 0, none⟩))) { w with heap := w.heap.push (.cells v.cells e) } := by
      simp only [execOp, hop, Instr.alloc, newVar, newRow, Sem.run_bind, zeroValue_run h1 h2, Result.andThen_ok, run_newObj, Sem.run_pure]
    have hw : Grew w (.cells ⟨v.cells.toList⟩ e) { w with heap := w.heap.push (.cells v.cells e) } := ⟨rfl, rfl, rfl⟩
    refine wp_value hr (after_mk p.df (put_defers _ _ _) (by rw [put_size]; exact p.sz) _ ρ (upd lam d (some w.heap.size)) _ ?_ (hw.good p.rel.lt (L0 := .bbox d) (n0 := 0) (by simp)) (fun _ _ h => h) hs)
    rw [hod]
    exact p.rel.newLocal hw h5 (Nat.lt_of_lt_of_le hdt p.sz) hb
  · exact hs.elim

theorem sim_ha {d e : Nat} {z : List Val} (p : Pre n0 gl nt w G ρ lam a st) (hod : o.dst = some d) (hdt : d < nt) (hop : o.op = .alloc e) (hz : zeros P e = some z)
    (hs : step (AP P gl) gl (.ha d z) st K) : o.wp P a w (After n0 gl nt w G ρ K) Q := by
  obtain ⟨i, v, h1, h2, h3, h4, h5⟩ := zeros_spec hz
  have hr : (execOp a.eval o).run P w = .ok (.value (.pointer (some ⟨w.heap.size, 0, none⟩))) { w with heap := w.heap.push (.cells v.cells e) } := by
    simp only [execOp, hop, Instr.alloc, newVar, newRow, Sem.run_bind, zeroValue_run h1 h2, Result.andThen_ok, run_newObj, Sem.run_pure]
  have hw : Grew w (.cells ⟨v.cells.toList⟩ e) { w with heap := w.heap.push (.cells v.cells e) } := ⟨rfl, rfl, rfl⟩
  refine wp_value hr (after_mk p.df (put_defers _ _ _) (by rw [put_size]; exact p.sz) _ (ρ ++ [w.heap.size]) lam _ ?_ (hw.good p.rel.lt (L0 := .obj st.s.length) (n0 := 0) (by simp)) pre_app hs)
  rw [hod]
  exact p.rel.newObj hw h5 (Nat.lt_of_lt_of_le hdt p.sz)

/-- A value's cells. -/
theorem RelA.cells {v : Value} {x : Val} {n : Nat} (h : RelA w G ρ v x) (hn : (cellsOf x).all (noL n) = true) : RelL w G ρ v.cells.toList (cellsOf x) := by
  cases h with
  | undef v => cases n <;> simp [cellsOf, noL] at hn
  | agg vs cs h => exact h
  | d v y h =>
    cases h with
    | agg vs cs h => exact h.toRelL
    | bool b => exact .cons _ _ _ _ (.d _ _ (.bool b)) .nil
    | int k n => exact .cons _ _ _ _ (.d _ _ (.int k n)) .nil
    | str s l h => exact .cons _ _ _ _ (.d _ _ (.str s l h)) .nil
    | nilp => exact .cons _ _ _ _ (.d _ _ .nilp) .nil
    | nilm => exact .cons _ _ _ _ (.d _ _ .nilm) .nil
    | nilf => exact .cons _ _ _ _ (.d _ _ .nilf) .nil
    | nili => exact .cons _ _ _ _ (.d _ _ .nili) .nil
    | fn f => exact .cons _ _ _ _ (.d _ _ (.fn f)) .nil
    | iface t v x h => exact .cons _ _ _ _ (.d _ _ (.iface t v x h)) .nil
    | list0 a c s => exact .cons _ _ _ _ (.d _ _ (.list0 a c s)) .nil
    | list b off n cap sz l vs h1 h2 h3 h4 h5 => exact .cons _ _ _ _ (.d _ _ (.list b off n cap sz l vs h1 h2 h3 h4 h5)) .nil
    | iptr b base off vs cs h1 h2 => exact .cons _ _ _ _ (.d _ _ (.iptr b base off vs cs h1 h2)) .nil
  | nil a sz => exact .cons _ _ _ _ (.nil _ _) .nil
  | ptr i off b h => exact .cons _ _ _ _ (.ptr _ _ _ h) .nil
  | map i b h => exact .cons _ _ _ _ (.map _ _ h) .nil
  | sl i off len cap sz b h => exact .cons _ _ _ _ (.sl _ _ _ _ _ _ h) .nil
  | func f as cs a c h1 h2 => exact .cons _ _ _ _ (.func _ _ _ _ _ h1 h2) .nil
  | tuple vs cs h => exact .cons _ _ _ _ (.tuple _ _ h) .nil
  | yl i l h => exact .cons _ _ _ _ (.yl _ _ h) .nil

/-- A value that no box of the frame is meant by. -/
theorem relT_noL_A {v : Value} {x : Val} {L : Loc} {n : Nat} (h : RelT w G ρ lam L v (snap x)) (hn : (cellsOf (snap x)).all (noL n) = true) : RelA w G ρ v (snap x) := by
  rcases h.cases with h | ⟨t, off, b, e, h1, h2⟩
  · have := h.snap
    have hs : snap (snap x) = snap x := by cases x <;> rfl
    rwa [hs] at this
  · rw [e] at hn; cases n <;> simp [cellsOf, noL] at hn

theorem sim_lb {d e n t1 : Nat} {x : Operand} {x' : O} (p : Pre n0 gl nt w G ρ lam a st) (hod : o.dst = some d) (hdt : d < nt) (hop : o.op = .box e x) (hx : opd P t1 x = some x')
    (hs : step (AP P gl) gl (.lb d x' n) st K) : o.wp P a w (After n0 gl nt w G ρ K) Q := by
  simp only [step] at hs
  split at hs
  · rename_i hb
    obtain ⟨hg, hs⟩ := hs
    simp only [Bool.and_eq_true] at hg
    have hA := relT_noL_A (ev_snap (L := .res) hx p.rel) hg.2
    have hc := hA.cells hg.2
    have hr : (execOp a.eval o).run P w = .ok (.value (.pointer (some ⟨w.heap.size, 0, none⟩))) { w with heap := w.heap.push (.cells (a.eval x).cells e) } := by
      simp only [execOp, hop, Instr.box, newVar, newRow, Sem.run_bind, Result.andThen_ok, run_newObj, Sem.run_pure]
    have hw : Grew w (.cells ⟨(a.eval x).cells.toList⟩ e) { w with heap := w.heap.push (.cells (a.eval x).cells e) } := ⟨rfl, rfl, rfl⟩
    refine wp_value hr (after_mk p.df (put_defers _ _ _) (by rw [put_size]; exact p.sz) _ ρ (upd lam d (some w.heap.size)) _ ?_ (hw.good p.rel.lt (L0 := .bbox d) (n0 := 0) (by simp)) (fun _ _ h => h) hs)
    rw [hod]
    exact p.rel.newLocal hw hc (Nat.lt_of_lt_of_le hdt p.sz) hb
  · exact hs.elim

theorem sim_hb {d e n t1 : Nat} {x : Operand} {x' : O} (p : Pre n0 gl nt w G ρ lam a st) (hod : o.dst = some d) (hdt : d < nt) (hop : o.op = .box e x) (hx : opd P t1 x = some x')
    (hs : step (AP P gl) gl (.hb d x' n) st K) : o.wp P a w (After n0 gl nt w G ρ K) Q := by
  simp only [step] at hs
  obtain ⟨hg, hs⟩ := hs
  simp only [Bool.and_eq_true] at hg
  have hA := relT_noL_A (ev_snap (L := .res) hx p.rel) hg.2
  have hc := hA.cells hg.2
  have hr : (execOp a.eval o).run P w = .ok (.value (.pointer (some ⟨w.heap.size, 0, none⟩))) { w with heap := w.heap.push (.cells (a.eval x).cells e) } := by
    simp only [execOp, hop, Instr.box, newVar, newRow, Sem.run_bind, Result.andThen_ok, run_newObj, Sem.run_pure]
  have hw : Grew w (.cells ⟨(a.eval x).cells.toList⟩ e) { w with heap := w.heap.push (.cells (a.eval x).cells e) } := ⟨rfl, rfl, rfl⟩
  refine wp_value hr (after_mk p.df (put_defers _ _ _) (by rw [put_size]; exact p.sz) _ (ρ ++ [w.heap.size]) lam _ ?_ (hw.good p.rel.lt (L0 := .obj st.s.length) (n0 := 0) (by simp)) pre_app hs)
  rw [hod]
  exact p.rel.newObj hw hc (Nat.lt_of_lt_of_le hdt p.sz)

/-! ### Reading a box -/

theorem RelBox.range {b : Nat} {L : Loc} {LC : Nat → Loc} {cs : List Val} (h : RelBox w G ρ b L LC cs) {off n : Nat} (hn : off + n ≤ cs.length) :
    ∃ vs : List Value, vs.length = n ∧ w.rangeAt b off vs ∧ ∀ j v x, vs[j]? = some v → ((cs.drop off).take n)[j]? = some x → RelV w G ρ (LC (off + j)) v x := by
  obtain ⟨c, E, fz, h1, h2, h3, h4, h5⟩ := h
  refine ⟨(c.toList.drop off).take n, by rw [List.length_take, List.length_drop, Array.length_toList, h4]; omega, ?_, ?_⟩
  · intro j v hv
    rw [cell_of_block h1]
    rw [List.getElem?_take] at hv
    split at hv
    · rw [List.getElem?_drop, Array.getElem?_toList] at hv; exact hv
    · simp at hv
  · intro j v x hv hx
    rw [List.getElem?_take] at hv hx
    split at hv
    · rename_i hj
      rw [if_pos hj] at hx
      rw [List.getElem?_drop] at hv hx
      rw [Array.getElem?_toList] at hv
      exact h5 _ _ _ hv hx
    · simp at hv

/-- A load. -/
theorem load_run {b off t n : Nat} {ag : Bool} {L : Loc} {LC : Nat → Loc} {cs : List Val} (h : RelBox w G ρ b L LC cs) (hn : off + n ≤ cs.length) (hz : szOf P t = some n) (hag : aggOf P t = some ag) (h1 : ag = false → n = 1) :
    ∃ v, (Instr.loadAt t (.pointer (some ⟨b, off, none⟩))).run P w = .ok v w ∧ RelA w G ρ v (valOf cs off n ag) := by
  obtain ⟨vs, hl, hr, hv⟩ := h.range hn
  have hz' : (P.info? t).map (·.size) = some vs.length := by rw [hl]; exact hz
  cases ag with
  | true =>
    have : ∃ d, P.underlying t = some d ∧ d.isRow = true := by
      unfold aggOf at hag
      cases hu : P.underlying t with
      | none => simp [hu] at hag
      | some d => cases d <;> simp [hu] at hag <;> exact ⟨_, rfl, rfl⟩
    obtain ⟨d, hu, hd⟩ := this
    refine ⟨.agg vs.toArray, run_loadAt_mid w b off t vs d hr hu hd hz', ?_⟩
    exact frz_agg (LC := fun j => LC (off + j)) (by rw [hl, List.length_take, List.length_drop]; omega) hv
  | false =>
    obtain rfl := h1 rfl
    obtain ⟨v, rfl⟩ := List.length_eq_one_iff.1 hl
    refine ⟨v, ?_, ?_⟩
    · have hc := hr 0 v rfl
      simp only [Nat.add_zero] at hc
      simp only [Instr.loadAt, Instr.sureAddr, Sem.run_bind, Sem.run_pure, Result.andThen_ok, loadVar, aggOf_run hag, Bool.false_eq_true, if_false, run_load, hc]
    · have hx : cs[off]? = some (cs.getD off .undef) := by rw [List.getD_eq_getElem?_getD, List.getElem?_eq_getElem (by omega)]; rfl
      have h2 : ((cs.drop off).take 1)[0]? = some (cs.getD off .undef) := by
        rw [List.getElem?_take, if_pos Nat.zero_lt_one, List.getElem?_drop, Nat.add_zero]; exact hx
      exact (hv 0 v (cs.getD off .undef) rfl h2).snap

theorem sim_ll {d t s off n t1 : Nat} {ag : Bool} {x : Operand} {x' : O} (p : Pre n0 gl nt w G ρ lam a st) (hod : o.dst = some d) (hdt : d < nt) (hop : o.op = .load t x) (hx : opd P t1 x = some x')
    (hz : szOf P t = some n) (hag : aggOf P t = some ag) (h1 : ag = false → n = 1) (hs : step (AP P gl) gl (.ll d x' s off n ag) st K) : o.wp P a w (After n0 gl nt w G ρ K) Q := by
  obtain ⟨L1, hr⟩ := ev_any hx p.rel
  simp only [step] at hs
  split at hs
  · rename_i t' off' cs e1 e2
    obtain ⟨hg, hs⟩ := hs
    simp only [Bool.and_eq_true] at hg
    obtain ⟨⟨ht, ho⟩, hn⟩ := hg
    obtain rfl : t' = s := Nat.eq_of_beq_eq_true ht
    obtain rfl : off' = off := Nat.eq_of_beq_eq_true ho
    rw [e1] at hr
    obtain ⟨b, hb, hv⟩ := hr
    obtain ⟨b', hb', hbox⟩ := p.rel.bx t' cs e2
    rw [hb'] at hb
    simp only [Option.some.injEq] at hb
    subst hb
    obtain ⟨v, hrun, hrel⟩ := load_run hbox (Nat.le_of_ble_eq_true hn) hz hag h1
    refine p.value hod hdt (v := v) ?_ (.of_A hrel) hs
    simp only [execOp, hop, hv, Sem.run_bind, hrun, Result.andThen_ok, Sem.run_pure]
  · exact hs.elim

theorem RelObs.at {s : Store} (h : RelObs w G ρ s) {i b : Nat} (hi : ρ[i]? = some b) : RelO w G ρ i b (s.getD i .dead) := by
  have hl : i < s.length := by
    rw [← h.1]
    rcases Nat.lt_or_ge i ρ.length with h' | h'
    · exact h'
    · rw [List.getElem?_eq_none h'] at hi; simp at hi
  exact h.2 i b _ hi (by rw [List.getD_eq_getElem?_getD, List.getElem?_eq_getElem hl]; rfl)

theorem load_imm {b base off t n : Nat} {ag : Bool} {vs : List Value} {cs : List D} (hc : CellsAt w G b base vs) (hr : RdL w G vs cs) (hn : off + n ≤ cs.length) (hz : szOf P t = some n) (hag : aggOf P t = some ag) (h1 : ag = false → n = 1) :
    ∃ v, (Instr.loadAt t (.pointer (some ⟨b, base + off, none⟩))).run P w = .ok v w ∧ Rd w G v (cond ag (.agg ((cs.drop off).take n)) (cs.getD off .nilp)) := by
  have hl := hr.length
  have hra : w.rangeAt b (base + off) ((vs.drop off).take n) := fun j v hv => (hc.sub off n j v hv).1
  have hlen : ((vs.drop off).take n).length = n := by rw [List.length_take, List.length_drop]; omega
  cases ag with
  | true =>
    have : ∃ d, P.underlying t = some d ∧ d.isRow = true := by
      unfold aggOf at hag
      cases hu : P.underlying t with
      | none => simp [hu] at hag
      | some d => cases d <;> simp [hu] at hag <;> exact ⟨_, rfl, rfl⟩
    obtain ⟨d, hu, hd⟩ := this
    exact ⟨.agg ((vs.drop off).take n).toArray, run_loadAt_mid w b _ t _ d hra hu hd (by rw [hlen]; exact hz), .agg _ _ ((hr.drop off).take n)⟩
  | false =>
    obtain rfl := h1 rfl
    have hlt : off < vs.length := by omega
    have hv : vs[off]? = some vs[off] := List.getElem?_eq_getElem hlt
    have hcell := (hc off _ hv).1
    refine ⟨vs[off], ?_, hr.get hv (by rw [List.getD_eq_getElem?_getD, List.getElem?_eq_getElem (by omega)]; rfl)⟩
    simp only [Instr.loadAt, Instr.sureAddr, Sem.run_bind, Sem.run_pure, Result.andThen_ok, loadVar, aggOf_run hag, Bool.false_eq_true, if_false, run_load, hcell]

theorem sim_hl {d t n t1 : Nat} {ag : Bool} {x : Operand} {x' : O} (p : Pre n0 gl nt w G ρ lam a st) (hod : o.dst = some d) (hdt : d < nt) (hop : o.op = .load t x) (hx : opd P t1 x = some x')
    (hz : szOf P t = some n) (hag : aggOf P t = some ag) (h1 : ag = false → n = 1) (hs : step (AP P gl) gl (.hl d x' n ag) st K) : o.wp P a w (After n0 gl nt w G ρ K) Q := by
  obtain ⟨L1, hr⟩ := ev_any hx p.rel
  simp only [step] at hs
  split at hs
  · rename_i i off e1
    rw [e1] at hr
    have hr' : RelA w G ρ (a.eval x) (.ptr i off) := hr
    cases hv1 : a.eval x <;> rw [hv1] at hr' <;> cases hr'
    rename_i b hb
    split at hs
    · rename_i cs e2
      obtain ⟨hn, hs⟩ := hs
      have hbox : RelO w G ρ i b (.box cs) := by have := p.rel.ob.at hb; rwa [e2] at this
      obtain ⟨v, hrun, hrel⟩ := load_run (show RelBox w G ρ b (.obj i) (.ocell i) cs from hbox) (Nat.le_of_ble_eq_true hn) hz hag h1
      refine p.value hod hdt (v := v) ?_ (.of_A hrel) hs
      simp only [execOp, hop, hv1, Sem.run_bind, hrun, Result.andThen_ok, Sem.run_pure]
    · exact hs.elim
  · rename_i cs off e1
    rw [e1] at hr
    have h1' := hr.dat
    cases hv1 : a.eval x <;> rw [hv1] at h1' <;> cases h1'
    rename_i b base vs hc hrd
    obtain ⟨hn, hs⟩ := hs
    obtain ⟨v, hrun, hrel⟩ := load_imm hc hrd (Nat.le_of_ble_eq_true hn) hz hag h1
    refine p.value hod hdt (v := v) ?_ (.of_A (.d _ _ hrel)) hs
    simp only [execOp, hop, hv1, Sem.run_bind, hrun, Result.andThen_ok, Sem.run_pure]
  · exact hs.elim

end
end Go.Vm
end

section
/- Writes into boxes; ownership out of boxes. Conditions: none. -/
namespace Go.Vm

section
variable {P : Program} {gl : Nat → List D} {n0 nt : Nat} {a : Act} {w w' : World} {G G' : Gh} {ρ ρ' : List Nat} {lam lam' : Nat → Option Nat} {st st' : St} {K : St → Prop} {o : Oper} {Q : Exit → Act → World → Prop}

theorem setCell_old {b off b' : Nat} {u : Value} (h : b' ≠ b) : (w.setCell ⟨b, off, none⟩ u).heap[b']? = w.heap[b']? := by
  unfold World.setCell
  simp [Array.getElem?_modify, Ne.symm h]

theorem setCell_at {b off : Nat} {u : Value} {c : Array Value} {E : TypeId} {fz : Nat × Nat} (h : w.heap[b]? = some (.cells c E fz)) : (w.setCell ⟨b, off, none⟩ u).heap[b]? = some (.cells (c.setIfInBounds off u) E fz) := by
  unfold World.setCell
  simp [Array.getElem?_modify, h]

theorem setCell_size {b off : Nat} {u : Value} : (w.setCell ⟨b, off, none⟩ u).heap.size = w.heap.size := by
  unfold World.setCell; simp

section
variable {b off : Nat} {u : Value} {L0 : Loc} (hG : G b = some (L0, 0))
 include hG

theorem write_keeps : Keeps w G (w.setCell ⟨b, off, none⟩ u) G := by
  intro b' off' v h
  have hne : b' ≠ b := by rintro rfl; exact absurd (h.2.1 _ _ hG) (Nat.not_lt_zero _)
  exact ⟨by rw [cell_congr (setCell_old hne)]; exact h.1, h.2⟩

theorem write_same {L : Loc} (hL : L ≠ L0) : SameL L L w G (w.setCell ⟨b, off, none⟩ u) G := by
  intro b' n h
  have hne : b' ≠ b := by rintro rfl; rw [hG] at h; simp only [Option.some.injEq, Prod.mk.injEq] at h; exact hL h.1.symm
  exact ⟨setCell_old hne, h⟩

theorem write_good (h0 : L0 ≠ .foreign) (hlt : ∀ b L n, G b = some (L, n) → b < w.heap.size) : Good w G (w.setCell ⟨b, off, none⟩ u) G where
  size := by rw [setCell_size]; exact Nat.le_refl _
  imm b' _ h := by
    have hne : b' ≠ b := by
      rintro rfl
      rcases h with h | ⟨n, h⟩
      · rw [hG] at h; simp at h
      · rw [hG] at h; simp only [Option.some.injEq, Prod.mk.injEq] at h; exact h0 h.1
    exact ⟨setCell_old hne, rfl⟩
  new b n hb hG := absurd (hlt _ _ _ hG) (Nat.not_lt.2 hb)
  old _ _ _ h := h
  keep := write_keeps hG
  os := rfl
  out := rfl
end

theorem RelBox.write {b off : Nat} {u : Value} {x : Val} {L : Loc} {LC : Nat → Loc} {cs : List Val} (h : RelBox w G ρ b L LC cs) (hx : RelV w G ρ (LC off) u x) (hLC : ∀ j, LC j ≠ L) :
    RelBox (w.setCell ⟨b, off, none⟩ u) G ρ b L LC (cs.set off x) := by
  obtain ⟨c, E, fz, h1, h2, h3, h4, h5⟩ := h
  refine ⟨c.setIfInBounds off u, E, fz, setCell_at h1, by simpa using h2, h3, by simpa using h4, ?_⟩
  intro j v y hv hy
  by_cases hj : j = off
  · subst hj
    have hlt : j < cs.length := by
      rcases Nat.lt_or_ge j cs.length with hl | hl
      · exact hl
      · rw [List.getElem?_eq_none (by simpa using hl)] at hy; simp at hy
    rw [Array.getElem?_setIfInBounds] at hv
    simp only [if_true, h4, hlt] at hv
    simp only [Option.some.injEq] at hv
    rw [List.getElem?_set_self hlt] at hy
    simp only [Option.some.injEq] at hy
    subst hv; subst hy
    exact hx.tr (write_keeps h3) (fun _ _ h => h) (write_same h3 (hLC _))
  · rw [Array.getElem?_setIfInBounds_ne (Ne.symm hj)] at hv
    rw [List.getElem?_set_ne (Ne.symm hj)] at hy
    exact (h5 j v y hv hy).tr (write_keeps h3) (fun _ _ h => h) (write_same h3 (hLC _))

/-- One cell of a local box is written. -/
theorem RelS.writeB {tmps : Array Value} {t b off : Nat} {u : Value} {x : Val} {cs : List Val} (h : RelS gl w G ρ lam tmps st) (hb : st.bx t = some cs) (hl : lam t = some b) (hx : RelV w G ρ (.bcell t off) u x) :
    RelS gl (w.setCell ⟨b, off, none⟩ u) G ρ lam tmps (st.setB t (cs.set off x)) ∧ Good w G (w.setCell ⟨b, off, none⟩ u) G := by
  obtain ⟨b', hl', hbox⟩ := h.bx t cs hb
  rw [hl] at hl'
  simp only [Option.some.injEq] at hl'
  subst hl'
  have hG : G b = some (.bbox t, 0) := by obtain ⟨_, _, _, _, _, h3, _⟩ := hbox; exact h3
  have hk := write_keeps (w := w) (off := off) (u := u) hG
  have hs : ∀ L, L ≠ .bbox t → SameL L L w G (w.setCell ⟨b, off, none⟩ u) G := fun L hL => write_same hG hL
  refine ⟨⟨fun s => (h.tm s).tr hk (fun _ _ h => h) (fun _ _ h => h) (hs _ (by simp)), ?_, ?_, h.ob.tr hk (fun _ => hs _ (by simp)) (fun _ _ => hs _ (by simp)), h.gb.tr hk, fun b L n hg => by rw [setCell_size]; exact h.lt _ _ _ hg⟩,
    write_good hG (by simp) h.lt⟩
  · intro s cs' hs'
    simp only [St.setB, upd_eq] at hs'
    by_cases hst : s = t
    · subst hst
      simp only [if_true, Option.some.injEq] at hs'
      subst hs'
      exact ⟨b, hl, hbox.write hx (by simp)⟩
    · simp only [hst, if_false] at hs'
      obtain ⟨b2, h1, h2⟩ := h.bx s cs' hs'
      exact ⟨b2, h1, RelBox.tr hk (fun _ _ h => h) (hs _ (by simp [hst])) (fun j => hs _ (by simp)) h2⟩
  · intro s hs'
    simp only [St.setB, upd_eq] at hs'
    by_cases hst : s = t
    · simp [hst] at hs'
    · simp only [hst, if_false] at hs'; exact h.nb s hs'

theorem setB_setB (st : St) (t : Nat) (a b : List Val) : (st.setB t a).setB t b = st.setB t b := by
  unfold St.setB
  congr 1
  funext j
  simp only [upd_eq]
  split <;> rfl

theorem setB_self {st : St} {t : Nat} {cs : List Val} (h : st.bx t = some cs) : st.setB t cs = st := by
  unfold St.setB
  cases st with
  | mk tm bx s =>
    congr 1
    funext j
    simp only [upd_eq]
    split
    · rename_i hj; subst hj; exact h.symm
    · rfl

/-- Several cells. -/
theorem RelS.writesB {tmps : Array Value} {t b : Nat} : ∀ {us : List Value} {xs : List Val} {off : Nat} {cs : List Val} {w : World} {st : St}, RelS gl w G ρ lam tmps st → st.bx t = some cs → lam t = some b → RelL w G ρ us xs →
    RelS gl (w.setCells b off us) G ρ lam tmps (st.setB t (putCells cs off xs)) ∧ Good w G (w.setCells b off us) G
  | [], xs, off, cs, w, st, h, hb, hl, hr => by
    cases hr
    rw [show putCells cs off [] = cs from rfl, setB_self hb]
    exact ⟨h, Good.refl h.lt⟩
  | u :: us, xs, off, cs, w, st, h, hb, hl, hr => by
    cases hr with
    | cons _ x _ xs hx hxs =>
      obtain ⟨h1, g1⟩ := h.writeB (off := off) hb hl (.of_A hx)
      have hb' : (st.setB t (cs.set off x)).bx t = some (cs.set off x) := by simp [St.setB, upd_self]
      obtain ⟨h2, g2⟩ := RelS.writesB (off := off + 1) h1 hb' hl (hxs.keep g1.keep fun _ _ h => h)
      rw [setB_setB] at h2
      exact ⟨h2, g1.trans g2⟩

/-- One cell of an object is written. -/
theorem RelS.writeO {tmps : Array Value} {i b off : Nat} {u : Value} {x : Val} {cs : List Val} (h : RelS gl w G ρ lam tmps st) (hb : st.s.getD i .dead = .box cs) (hi : ρ[i]? = some b) (hx : RelV w G ρ (.ocell i off) u x) :
    RelS gl (w.setCell ⟨b, off, none⟩ u) G ρ lam tmps { st with s := st.s.set i (.box (cs.set off x)) } ∧ Good w G (w.setCell ⟨b, off, none⟩ u) G := by
  have hbox : RelBox w G ρ b (.obj i) (.ocell i) cs := by have := h.ob.at hi; rwa [hb] at this
  have hG : G b = some (.obj i, 0) := by obtain ⟨_, _, _, _, _, h3, _⟩ := hbox; exact h3
  have hk := write_keeps (w := w) (off := off) (u := u) hG
  have hs : ∀ L, L ≠ .obj i → SameL L L w G (w.setCell ⟨b, off, none⟩ u) G := fun L hL => write_same hG hL
  refine ⟨⟨fun s => (h.tm s).tr hk (fun _ _ h => h) (fun _ _ h => h) (hs _ (by simp)), ?_, h.nb, ⟨by simpa using h.ob.1, ?_⟩, h.gb.tr hk, fun b L n hg => by rw [setCell_size]; exact h.lt _ _ _ hg⟩,
    write_good hG (by simp) h.lt⟩
  · intro s cs' hs'
    obtain ⟨b2, h1, h2⟩ := h.bx s cs' hs'
    exact ⟨b2, h1, RelBox.tr hk (fun _ _ h => h) (hs _ (by simp)) (fun j => hs _ (by simp)) h2⟩
  · intro j b2 ob hj hob
    by_cases hij : j = i
    · subst hij
      rw [hi] at hj
      simp only [Option.some.injEq] at hj
      subst hj
      have hlt : j < st.s.length := by
        rcases Nat.lt_or_ge j st.s.length with hl | hl
        · exact hl
        · rw [List.getElem?_eq_none (by simpa using hl)] at hob; simp at hob
      simp only [List.getElem?_set_self hlt, Option.some.injEq] at hob
      subst hob
      exact hbox.write hx (by simp)
    · simp only [List.getElem?_set_ne (Ne.symm hij)] at hob
      exact (h.ob.2 j b2 ob hj hob).tr hk (fun _ _ h => h) (hs _ (by simp [hij])) (fun k => hs _ (by simp))

theorem set_getD {s : Store} {i : Nat} {cs cs' : List Val} (h : s.getD i .dead = .box cs) : (s.set i (.box cs')).getD i .dead = .box cs' := by
  have hlt : i < s.length := by
    rcases Nat.lt_or_ge i s.length with hl | hl
    · exact hl
    · rw [List.getD_eq_getElem?_getD, List.getElem?_eq_none hl] at h; simp at h
  rw [List.getD_eq_getElem?_getD, List.getElem?_set_self hlt]; rfl

theorem set_same {s : Store} {i : Nat} {cs : List Val} (h : s.getD i .dead = .box cs) : s.set i (.box cs) = s := by
  apply List.ext_getElem?
  intro j
  by_cases hj : j = i
  · subst hj
    have hlt : j < s.length := by
      rcases Nat.lt_or_ge j s.length with hl | hl
      · exact hl
      · rw [List.getD_eq_getElem?_getD, List.getElem?_eq_none hl] at h; simp at h
    rw [List.getElem?_set_self hlt]
    rw [List.getD_eq_getElem?_getD] at h
    rw [List.getElem?_eq_getElem hlt] at h ⊢
    simp at h; rw [h]
  · rw [List.getElem?_set_ne (Ne.symm hj)]

theorem RelS.writesO {tmps : Array Value} {i b : Nat} (hi : ρ[i]? = some b) : ∀ {us : List Value} {xs : List Val} {off : Nat} {cs : List Val} {w : World} {st : St}, RelS gl w G ρ lam tmps st → st.s.getD i .dead = .box cs → RelL w G ρ us xs →
    RelS gl (w.setCells b off us) G ρ lam tmps { st with s := st.s.set i (.box (putCells cs off xs)) } ∧ Good w G (w.setCells b off us) G
  | [], xs, off, cs, w, st, h, hb, hr => by
    cases hr
    rw [show putCells cs off [] = cs from rfl, set_same hb]
    exact ⟨h, Good.refl h.lt⟩
  | u :: us, xs, off, cs, w, st, h, hb, hr => by
    cases hr with
    | cons _ x _ xs hx hxs =>
      obtain ⟨h1, g1⟩ := h.writeO (off := off) hb hi (.of_A hx)
      have hb' : ({ st with s := st.s.set i (.box (cs.set off x)) } : St).s.getD i .dead = .box (cs.set off x) := set_getD hb
      obtain ⟨h2, g2⟩ := RelS.writesO hi (off := off + 1) h1 hb' (hxs.keep g1.keep fun _ _ h => h)
      simp only [List.set_set] at h2
      exact ⟨h2, g1.trans g2⟩

/-- A store, as the machine makes it. -/
theorem store_run {b off t : Nat} {v : Value} {L : Loc} {LC : Nat → Loc} {cs : List Val} (h : RelBox w G ρ b L LC cs) (hn : off + v.cells.size ≤ cs.length) (hz : szOf P t = some v.cells.size) (h1 : ∀ u ∈ v.cells.toList, u.oneCell' = true) :
    (Instr.storeAt t (.pointer (some ⟨b, off, none⟩)) v).run P w = .ok () (w.setCells b off v.cells.toList) := by
  obtain ⟨c, E, fz, e1, e2, e3, e4, e5⟩ := h
  have := run_storeCells_cells (P := P) b off v.cells.toList 0 w
    (fun j hj => by
      rw [Nat.add_zero, cell_of_block e1]
      have hlt : off + j < c.size := by rw [e4]; simp at hj; omega
      simp [hlt])
    (fun j hj => by
      rw [Nat.add_zero, frozen_of_block e1]
      have hlt : off + j < c.size := by rw [e4]; simp at hj; omega
      have := e2 _ hlt
      simp only [Bool.and_eq_false_imp, decide_eq_true_eq, decide_eq_false_iff_not]
      exact fun h1 h2 => this ⟨h1, h2⟩)
    h1
  simp only [Nat.add_zero] at this
  simp [Instr.storeAt, Instr.sureAddr, storeVar, Sem.run_bind, szOf_run hz, this]

theorem oneC_cell {v : Value} {x : Val} (h : RelA w G ρ v x) (hc : oneC x = true) : v.oneCell' = true := by
  cases h with
  | d v y h => cases h <;> first | rfl | simp [oneC] at hc
  | undef v => simp [oneC] at hc
  | agg _ _ _ => simp [oneC] at hc
  | tuple _ _ _ => simp [oneC] at hc
  | yl _ _ _ => simp [oneC] at hc
  | _ => rfl

end
end Go.Vm
end

section
/- Stores and takes at operations. Conditions: none. -/
namespace Go.Vm

section
variable {P : Program} {gl : Nat → List D} {n0 nt : Nat} {a : Act} {w w' : World} {G G' : Gh} {ρ ρ' : List Nat} {lam lam' : Nat → Option Nat} {st st' : St} {K : St → Prop} {o : Oper} {Q : Exit → Act → World → Prop}

/-- What is stored, once the temporary that held it has let it go: cells in no place, or one slice on its way from a temporary. -/
theorem stored_cases {t : Nat} {x : Operand} {y : O} (p : Pre n0 gl nt w G ρ lam a st) (hx : opd P t x = some y) (hok : (cellsOf (ev gl st y)).all cellOk = true) :
    (kill st y = st ∧ RelL w G ρ (a.eval x).cells.toList (cellsOf (ev gl st y)) ∧ ∀ u ∈ (a.eval x).cells.toList, u.oneCell' = true) ∨
    (∃ s sz l, y = .t s ∧ st.tm s = .own sz l ∧ kill st y = st.set s .undef ∧ cellsOf (ev gl st y) = [.own sz l] ∧ (a.eval x).cells.toList = [a.eval x] ∧ (a.eval x).oneCell' = true ∧ RelV w G ρ (.slot s) (a.eval x) (.own sz l)) := by
  have plain : ∀ {z : Val}, RelA w G ρ (a.eval x) z → (cellsOf z).all cellOk = true → RelL w G ρ (a.eval x).cells.toList (cellsOf z) ∧ ∀ u ∈ (a.eval x).cells.toList, u.oneCell' = true := by
    intro z hz hall
    have hn : (cellsOf z).all (noL depth) = true := by
      rw [List.all_eq_true] at hall ⊢
      intro c hc
      have := hall c hc
      simp only [cellOk, Bool.and_eq_true] at this
      exact this.2
    have hL := hz.cells hn
    refine ⟨hL, ?_⟩
    intro u hu
    obtain ⟨j, hj, rfl⟩ := List.getElem_of_mem hu
    have hj' : j < (cellsOf z).length := by rw [← hL.length]; exact hj
    have hr := hL.get (List.getElem?_eq_getElem hj) (List.getElem?_eq_getElem hj')
    have := (List.all_eq_true.1 hall) _ (List.getElem_mem hj')
    simp only [cellOk, Bool.and_eq_true] at this
    exact oneC_cell hr this.1
  rcases ev_const hx p.rel with ⟨s, rfl, rfl⟩ | ⟨hn, hA⟩
  · rcases kill_cases st (.t s) with ⟨hk, hno⟩ | ⟨s', hs', hk, sz, l, hx'⟩
    · refine .inl ⟨hk, ?_⟩
      have hT := p.rel.tm s
      rcases hT.cases with hV | ⟨t', off, b, e, _, _⟩
      · rcases hV.cases with hA | ⟨sz, d, l, e, _⟩
        · exact plain hA hok
        · exact absurd e (hno s rfl sz (d :: l))
      · exfalso
        have : ev gl st (.t s) = .lref t' off := e
        rw [this] at hok
        simp [cellsOf, cellOk, oneC] at hok
    · cases hs'
      right
      have hT := p.rel.tm s
      rw [hx'] at hT
      have hV : RelV w G ρ (.slot s) (a.tmps.getD s undef) (.own sz l) := hT
      have hsl : ∃ ad n c, a.tmps.getD s undef = .slice ad n c := by
        rcases hV.cases with hA | ⟨sz', d, l', e, hO⟩
        · cases hv : a.tmps.getD s undef <;> rw [hv] at hA <;> cases hA
          exact ⟨_, _, _, rfl⟩
        · obtain ⟨b, off, cap, c, E, fz, vs, h1, _⟩ := hO
          exact ⟨_, _, _, h1⟩
      obtain ⟨ad, n, c, hv⟩ := hsl
      have hev : a.eval (.tmp s) = .slice ad n c := hv
      refine ⟨s, sz, l, rfl, hx', hk, ?_, ?_, ?_, ?_⟩
      · show cellsOf (st.tm s) = _; rw [hx']; rfl
      · rw [hev]; rfl
      · rw [hev]; rfl
      · rw [hev]; rw [hv] at hV; exact hV
  · rcases kill_cases st y with ⟨hk, _⟩ | ⟨s', hs', hk, _⟩
    · exact .inl ⟨hk, plain hA hok⟩
    · exact absurd hs' (hn s')

/-- A slot's slice is on its way to another place: nobody holds it in the frame. -/
theorem RelS.letGo {tmps : Array Value} {s : Nat} {L : Loc} (h : RelS gl w G ρ lam tmps st) :
    RelS gl w (relab (swapL (.slot s) L) G) ρ lam tmps (st.set s .undef) := by
  have hk : Keeps w G w (relab (swapL (.slot s) L) G) := relab_keeps _
  have hid : ∀ L', L' ≠ .slot s → SameL L' L' w G w (relab (swapL (.slot s) L) G) := fun L' hL => relab_same' (swapL_ne hL)
  refine ⟨?_, ?_, h.nb, ?_, h.gb.tr hk, relab_lt h.lt⟩
  · intro t
    simp only [St.set, upd_eq]
    by_cases ht : t = s
    · simp only [ht, if_true]; exact .of_A (.undef _)
    · simp only [ht, if_false]
      exact (h.tm t).tr hk (fun _ _ h => h) (fun _ _ h => h) (hid _ (by simp [ht]))
  · intro t cs hb
    obtain ⟨b, h1, h2⟩ := h.bx t cs hb
    exact ⟨b, h1, RelBox.tr hk (fun _ _ h => h) (hid _ (by simp)) (fun j => hid _ (by simp)) h2⟩
  · exact h.ob.tr hk (fun i => hid _ (by simp)) (fun i j => hid _ (by simp))

theorem setCells_one {b off : Nat} {u : Value} : w.setCells b off [u] = w.setCell ⟨b, off, none⟩ u := rfl

theorem sim_ls {t tb off n t1 t2 : Nat} {x y : Operand} {x' y' : O} (p : Pre n0 gl nt w G ρ lam a st) (hod : o.dst = none) (hop : o.op = .store t x y) (hx : opd P t1 x = some x') (hy : opd P t2 y = some y')
    (hz : szOf P t = some n) (hs : step (AP P gl) gl (.ls x' tb off y' n) st K) : o.wp P a w (After n0 gl nt w G ρ K) Q := by
  obtain ⟨L1, hr⟩ := ev_any hx p.rel
  simp only [step] at hs
  split at hs
  · rename_i t' off' cs e1 e2
    obtain ⟨hg, hs⟩ := hs
    simp only [Bool.and_eq_true] at hg
    obtain ⟨⟨⟨⟨ht, ho⟩, hn1⟩, hn2⟩, hok⟩ := hg
    obtain rfl : t' = tb := Nat.eq_of_beq_eq_true ht
    obtain rfl : off' = off := Nat.eq_of_beq_eq_true ho
    have hn1 : (cellsOf (ev gl st y')).length = n := Nat.eq_of_beq_eq_true hn1
    rw [e1] at hr
    obtain ⟨b, hb, hv⟩ := hr
    obtain ⟨b', hb', hbox⟩ := p.rel.bx t' cs e2
    rw [hb'] at hb
    simp only [Option.some.injEq] at hb
    subst hb
    have hexec : (Instr.storeAt t (.pointer (some ⟨b', off', none⟩)) (a.eval y)).run P w = .ok () (w.setCells b' off' (a.eval y).cells.toList) → (execOp a.eval o).run P w = .ok .skip (w.setCells b' off' (a.eval y).cells.toList) := by
      intro h
      simp only [execOp, hop, hv, Sem.run_bind, h, Result.andThen_ok, Sem.run_pure]
    rcases stored_cases p hy hok with ⟨hk, hL, h1⟩ | ⟨s, sz, l, rfl, hts, hk, hcs, hvs, h1, hV⟩
    · have hsz : (a.eval y).cells.size = n := by rw [← hn1, ← hL.length, Array.length_toList]
      have hrun := store_run (P := P) (t := t) (v := a.eval y) hbox (by rw [hsz]; exact Nat.le_of_ble_eq_true hn2) (by rw [hsz]; exact hz) h1
      obtain ⟨hrel, hgood⟩ := RelS.writesB p.rel e2 hb' hL
      rw [hk] at hs
      exact wp_skip' (hexec hrun) (after_mk p.df (put_defers _ _ _) (by rw [put_size]; exact p.sz) G ρ lam _ (by rw [hod]; exact hrel) hgood (fun _ _ h => h) hs)
    · have hsz : (a.eval y).cells.size = n := by rw [← hn1, hcs, ← Array.length_toList, hvs]; rfl
      have hrun := store_run (P := P) (t := t) (v := a.eval y) hbox (by rw [hsz]; exact Nat.le_of_ble_eq_true hn2) (by rw [hsz]; exact hz) (by rw [hvs]; simpa using h1)
      have hgo := p.rel.letGo (s := s) (L := .bcell t' off')
      have hV' : RelV w (relab (swapL (.slot s) (.bcell t' off')) G) ρ (.bcell t' off') (a.eval y) (.own sz l) := by
        have := relab_same (w := w) (G := G) (swapL (.slot s) (.bcell t' off')) (.slot s)
        rw [swapL_self] at this
        exact hV.tr (relab_keeps _) (fun _ _ h => h) this
      obtain ⟨hrel, hgood⟩ := RelS.writeB (off := off') hgo (show (st.set s .undef).bx t' = some cs from e2) hb' hV'
      rw [hk, hcs] at hs
      rw [hvs] at hrun hexec
      rw [setCells_one] at hrun hexec
      exact wp_skip' (hexec hrun) (after_mk p.df (put_defers _ _ _) (by rw [put_size]; exact p.sz) _ ρ lam _ (by rw [hod]; exact hrel) ((swap_good p.rel.lt (by simp) (by simp)).trans hgood) (fun _ _ h => h) hs)
  · exact hs.elim

theorem sim_hs {t n t1 t2 : Nat} {x y : Operand} {x' y' : O} (p : Pre n0 gl nt w G ρ lam a st) (hod : o.dst = none) (hop : o.op = .store t x y) (hx : opd P t1 x = some x') (hy : opd P t2 y = some y')
    (hz : szOf P t = some n) (hs : step (AP P gl) gl (.hs x' y' n) st K) : o.wp P a w (After n0 gl nt w G ρ K) Q := by
  obtain ⟨L1, hr⟩ := ev_any hx p.rel
  simp only [step] at hs
  split at hs
  · rename_i i off e1
    rw [e1] at hr
    have hr' : RelA w G ρ (a.eval x) (.ptr i off) := hr
    cases hv1 : a.eval x <;> rw [hv1] at hr' <;> cases hr'
    rename_i b hb
    split at hs
    · rename_i cs e2
      obtain ⟨hg, hs⟩ := hs
      simp only [Bool.and_eq_true] at hg
      obtain ⟨⟨hn1, hn2⟩, hok⟩ := hg
      have hn1 : (cellsOf (ev gl st y')).length = n := Nat.eq_of_beq_eq_true hn1
      have hbox : RelBox w G ρ b (.obj i) (.ocell i) cs := by have := p.rel.ob.at hb; rwa [e2] at this
      have hexec : (Instr.storeAt t (.pointer (some ⟨b, off, none⟩)) (a.eval y)).run P w = .ok () (w.setCells b off (a.eval y).cells.toList) → (execOp a.eval o).run P w = .ok .skip (w.setCells b off (a.eval y).cells.toList) := by
        intro h
        simp only [execOp, hop, hv1, Sem.run_bind, h, Result.andThen_ok, Sem.run_pure]
      rcases stored_cases p hy hok with ⟨hk, hL, h1⟩ | ⟨s, sz, l, rfl, hts, hk, hcs, hvs, h1, hV⟩
      · have hsz : (a.eval y).cells.size = n := by rw [← hn1, ← hL.length, Array.length_toList]
        have hrun := store_run (P := P) (t := t) (v := a.eval y) hbox (by rw [hsz]; exact Nat.le_of_ble_eq_true hn2) (by rw [hsz]; exact hz) h1
        obtain ⟨hrel, hgood⟩ := RelS.writesO hb p.rel e2 hL
        rw [hk] at hs
        exact wp_skip' (hexec hrun) (after_mk p.df (put_defers _ _ _) (by rw [put_size]; exact p.sz) G ρ lam _ (by rw [hod]; exact hrel) hgood (fun _ _ h => h) hs)
      · have hsz : (a.eval y).cells.size = n := by rw [← hn1, hcs, ← Array.length_toList, hvs]; rfl
        have hrun := store_run (P := P) (t := t) (v := a.eval y) hbox (by rw [hsz]; exact Nat.le_of_ble_eq_true hn2) (by rw [hsz]; exact hz) (by rw [hvs]; simpa using h1)
        have hgo := p.rel.letGo (s := s) (L := .ocell i off)
        have hV' : RelV w (relab (swapL (.slot s) (.ocell i off)) G) ρ (.ocell i off) (a.eval y) (.own sz l) := by
          have := relab_same (w := w) (G := G) (swapL (.slot s) (.ocell i off)) (.slot s)
          rw [swapL_self] at this
          exact hV.tr (relab_keeps _) (fun _ _ h => h) this
        obtain ⟨hrel, hgood⟩ := RelS.writeO (off := off) hgo (show (st.set s .undef).s.getD i .dead = .box cs from e2) hb hV'
        rw [hk, hcs] at hs
        rw [hvs] at hrun hexec
        rw [setCells_one] at hrun hexec
        exact wp_skip' (hexec hrun) (after_mk p.df (put_defers _ _ _) (by rw [put_size]; exact p.sz) _ ρ lam _ (by rw [hod]; exact hrel) ((swap_good p.rel.lt (by simp) (by simp)).trans hgood) (fun _ _ h => h) hs)
    · exact hs.elim
  · exact hs.elim

/-! ### Ownership out of a box -/

/-- A cell's slice goes to a slot. -/
theorem RelBox.takeCell {b off : Nat} {cs : List Val} {L : Loc} {LC : Nat → Loc} {d : Nat} (h : RelBox w G ρ b L LC cs) (hL : L ≠ LC off) (hne : ∀ j, j ≠ off → LC j ≠ LC off) (hlt : off < cs.length) :
    RelBox w (relab (swapL (LC off) (.slot d)) G) ρ b L LC (cs.set off .undef) ∧ ∃ v, w.cell? ⟨b, off, none⟩ = some v ∧ RelV w (relab (swapL (LC off) (.slot d)) G) ρ (.slot d) v (cs.getD off .undef) := by
  have hk : Keeps w G w (relab (swapL (LC off) (.slot d)) G) := relab_keeps _
  have hid : ∀ L', L' ≠ LC off → SameL L' L' w G w (relab (swapL (LC off) (.slot d)) G) := fun L' hL => relab_same' (swapL_ne hL)
  obtain ⟨c, E, fz, h1, h2, h3, h4, h5⟩ := h
  refine ⟨⟨c, E, fz, h1, h2, (hid L hL _ _ h3).2, by simpa using h4, ?_⟩, ?_⟩
  · intro j v y hv hy
    by_cases hj : j = off
    · subst hj
      rw [List.getElem?_set_self hlt] at hy
      simp only [Option.some.injEq] at hy
      subst hy
      exact .of_A (.undef _)
    · rw [List.getElem?_set_ne (Ne.symm hj)] at hy
      exact (h5 j v y hv hy).tr hk (fun _ _ h => h) (hid _ (hne j hj))
  · have hlc : off < c.size := by rw [h4]; exact hlt
    refine ⟨c[off], by rw [cell_of_block h1]; simp [hlc], ?_⟩
    have hx : cs[off]? = some (cs.getD off .undef) := by rw [List.getD_eq_getElem?_getD, List.getElem?_eq_getElem hlt]; rfl
    have hs := relab_same (w := w) (G := G) (swapL (LC off) (.slot d)) (LC off)
    rw [swapL_self] at hs
    exact (h5 off c[off] _ (by simp [hlc]) hx).tr hk (fun _ _ h => h) hs

theorem load_one {b off t : Nat} {v : Value} (hc : w.cell? ⟨b, off, none⟩ = some v) (hag : aggOf P t = some false) : (Instr.loadAt t (.pointer (some ⟨b, off, none⟩))).run P w = .ok v w := by
  simp only [Instr.loadAt, Instr.sureAddr, Sem.run_bind, Sem.run_pure, Result.andThen_ok, loadVar, aggOf_run hag, Bool.false_eq_true, if_false, run_load, hc]

theorem sim_lt {d t tb off t1 : Nat} {x : Operand} {x' : O} (p : Pre n0 gl nt w G ρ lam a st) (hod : o.dst = some d) (hdt : d < nt) (hop : o.op = .load t x) (hx : opd P t1 x = some x')
    (hag : aggOf P t = some false) (hs : step (AP P gl) gl (.lt d x' tb off) st K) : o.wp P a w (After n0 gl nt w G ρ K) Q := by
  obtain ⟨L1, hr⟩ := ev_any hx p.rel
  simp only [step] at hs
  split at hs
  · rename_i t' off' cs e1 e2
    obtain ⟨hg, hs⟩ := hs
    simp only [Bool.and_eq_true] at hg
    obtain ⟨⟨ht, ho⟩, hn⟩ := hg
    obtain rfl : t' = tb := Nat.eq_of_beq_eq_true ht
    obtain rfl : off' = off := Nat.eq_of_beq_eq_true ho
    have hlt : off' < cs.length := by simpa [Nat.blt_eq] using hn
    rw [e1] at hr
    obtain ⟨b, hb, hv⟩ := hr
    obtain ⟨b', hb', hbox⟩ := p.rel.bx t' cs e2
    rw [hb'] at hb
    simp only [Option.some.injEq] at hb
    subst hb
    obtain ⟨hbox2, v, hc, hV⟩ := hbox.takeCell (d := d) (off := off') (by simp) (by intro j hj; simp [hj]) hlt
    have hk : Keeps w G w (relab (swapL (.bcell t' off') (.slot d)) G) := relab_keeps _
    have hid : ∀ L', L' ≠ .bcell t' off' → SameL L' L' w G w (relab (swapL (.bcell t' off') (.slot d)) G) := fun L' hL => relab_same' (swapL_ne hL)
    have hrel : RelS gl w (relab (swapL (.bcell t' off') (.slot d)) G) ρ lam a.tmps (st.setB t' (cs.set off' .undef)) := by
      refine ⟨fun s => (p.rel.tm s).tr hk (fun _ _ h => h) (fun _ _ h => h) (hid _ (by simp)), ?_, ?_, p.rel.ob.tr hk (fun _ => hid _ (by simp)) (fun _ _ => hid _ (by simp)), p.rel.gb.tr hk, relab_lt p.rel.lt⟩
      · intro s cs' hs'
        simp only [St.setB, upd_eq] at hs'
        by_cases hst : s = t'
        · subst hst
          simp only [if_true, Option.some.injEq] at hs'
          subst hs'
          exact ⟨b', hb', hbox2⟩
        · simp only [hst, if_false] at hs'
          obtain ⟨b2, h1, h2⟩ := p.rel.bx s cs' hs'
          exact ⟨b2, h1, RelBox.tr hk (fun _ _ h => h) (hid _ (by simp)) (fun j => hid _ (by simp [hst])) h2⟩
      · intro s hs'
        simp only [St.setB, upd_eq] at hs'
        by_cases hst : s = t'
        · simp [hst] at hs'
        · simp only [hst, if_false] at hs'; exact p.rel.nb s hs'
    refine wp_value (v := v) ?_ (after_set hrel p.df p.sz hdt (swap_good p.rel.lt (by simp) (by simp)) (fun _ _ h => h) hod (.of_V hV) hs)
    simp only [execOp, hop, hv, Sem.run_bind, load_one hc hag, Result.andThen_ok, Sem.run_pure]
  · exact hs.elim

theorem sim_ht {d t t1 : Nat} {x : Operand} {x' : O} (p : Pre n0 gl nt w G ρ lam a st) (hod : o.dst = some d) (hdt : d < nt) (hop : o.op = .load t x) (hx : opd P t1 x = some x')
    (hag : aggOf P t = some false) (hs : step (AP P gl) gl (.ht d x') st K) : o.wp P a w (After n0 gl nt w G ρ K) Q := by
  obtain ⟨L1, hr⟩ := ev_any hx p.rel
  simp only [step] at hs
  split at hs
  · rename_i i off e1
    rw [e1] at hr
    have hr' : RelA w G ρ (a.eval x) (.ptr i off) := hr
    cases hv1 : a.eval x <;> rw [hv1] at hr' <;> cases hr'
    rename_i b hb
    split at hs
    · rename_i cs e2
      obtain ⟨hg, hs⟩ := hs
      have hlt : off < cs.length := by simpa [Nat.blt_eq] using hg
      have hbox : RelBox w G ρ b (.obj i) (.ocell i) cs := by have := p.rel.ob.at hb; rwa [e2] at this
      obtain ⟨hbox2, v, hc, hV⟩ := hbox.takeCell (d := d) (off := off) (by simp) (by intro j hj; simp [hj]) hlt
      have hk : Keeps w G w (relab (swapL (.ocell i off) (.slot d)) G) := relab_keeps _
      have hid : ∀ L', L' ≠ .ocell i off → SameL L' L' w G w (relab (swapL (.ocell i off) (.slot d)) G) := fun L' hL => relab_same' (swapL_ne hL)
      have hrel : RelS gl w (relab (swapL (.ocell i off) (.slot d)) G) ρ lam a.tmps { st with s := st.s.set i (.box (cs.set off .undef)) } := by
        refine ⟨fun s => (p.rel.tm s).tr hk (fun _ _ h => h) (fun _ _ h => h) (hid _ (by simp)), ?_, p.rel.nb, ⟨by simpa using p.rel.ob.1, ?_⟩, p.rel.gb.tr hk, relab_lt p.rel.lt⟩
        · intro s cs' hs'
          obtain ⟨b2, h1, h2⟩ := p.rel.bx s cs' hs'
          exact ⟨b2, h1, RelBox.tr hk (fun _ _ h => h) (hid _ (by simp)) (fun j => hid _ (by simp)) h2⟩
        · intro j b2 ob hj hob
          by_cases hij : j = i
          · subst hij
            rw [hb] at hj
            simp only [Option.some.injEq] at hj
            subst hj
            have hlt' : j < st.s.length := by
              rcases Nat.lt_or_ge j st.s.length with hl | hl
              · exact hl
              · rw [List.getElem?_eq_none (by simpa using hl)] at hob; simp at hob
            simp only [List.getElem?_set_self hlt', Option.some.injEq] at hob
            subst hob
            exact hbox2
          · simp only [List.getElem?_set_ne (Ne.symm hij)] at hob
            exact (p.rel.ob.2 j b2 ob hj hob).tr hk (fun _ _ h => h) (hid _ (by simp)) (fun k => hid _ (by simp [hij]))
      refine wp_value (v := v) ?_ (after_set hrel p.df p.sz hdt (swap_good p.rel.lt (by simp) (by simp)) (fun _ _ h => h) hod (.of_V hV) hs)
      simp only [execOp, hop, hv1, Sem.run_bind, load_one hc hag, Result.andThen_ok, Sem.run_pure]
    · exact hs.elim
  · exact hs.elim

end
end Go.Vm
end
