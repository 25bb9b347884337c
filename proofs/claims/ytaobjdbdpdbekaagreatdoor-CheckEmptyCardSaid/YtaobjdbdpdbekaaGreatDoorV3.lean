/- Part of a small abstract machine over the kit. Conditions: none. -/
import Derived.Test.YtaobjdbdpdbekaaGreatDoorV2
import Derived.Test.YtaobjdbdpdbekaaGreatDoorV1
import Derived.Orders
import Derived.Deep.LoopGhost
import Derived.RangeFuncLeaves
import Derived.RangeFuncRecord
section
/- One operation, translated, against the kit's. Conditions: none. -/
namespace Go.Vm

section
variable {P : Program} {gl : Nat → List D} {n0 nt : Nat} {a : Act} {w w' : World} {G G' : Gh} {ρ ρ' : List Nat} {lam lam' : Nat → Option Nat} {st st' : St} {K : St → Prop} {o : Oper} {Q : Exit → Act → World → Prop}

theorem elemOf_some {t e : Nat} (h : elemOf? P t = some e) : P.underlying t = some (.slice e) := by
  unfold elemOf? at h
  split at h
  · simp only [Option.some.injEq] at h; subst h; assumption
  · simp at h

theorem mapM_opd {t : Nat} {xs : List Operand} {ys : List O} (h : xs.mapM (opd P t) = some ys) : All2 (fun x y => ∃ t, opd P t x = some y) xs ys :=
  (mapM_all2 h).imp fun _ _ h => ⟨t, h⟩

theorem zipIdx_opd {f : Operand → Nat → Nat} : ∀ {xs : List Operand} {k : Nat} {ys : List O}, (xs.zipIdx k).mapM (fun q => opd P (f q.1 q.2) q.1) = some ys → All2 (fun x y => ∃ t, opd P t x = some y) xs ys
  | [], _, ys, h => by
    have := mapM_all2 h
    simp only [List.zipIdx_nil] at this
    cases this; exact .nil
  | x :: xs, k, ys, h => by
    have := mapM_all2 h
    simp only [List.zipIdx_cons] at this
    cases this with
    | @cons _ y _ ys h1 h2 =>
      refine .cons ⟨_, h1⟩ (zipIdx_opd (k := k + 1) (f := f) ?_)
      exact all2_mapM h2
 where
  all2_mapM {α β : Type} {f : α → Option β} : ∀ {l : List α} {l' : List β}, All2 (fun x y => f x = some y) l l' → l.mapM f = some l'
    | _, _, .nil => by simp
    | _, _, .cons h1 h2 => by simp [List.mapM_cons, h1, all2_mapM h2]

theorem isZero_eval {x : Option Operand} (h : isZeroC x = true) : ∃ y, x = some y ∧ ∃ k, a.eval y = .int k 0 := by
  unfold isZeroC at h
  split at h
  · rename_i k n
    simp only [decide_eq_true_eq] at h
    subst h
    exact ⟨_, rfl, k, rfl⟩
  · simp at h

theorem sim_binop {d t u : Nat} {op : BinOp} {x y : Operand} {x' y' : O} {i : I} (p : Pre n0 gl nt w G ρ lam a st) (hod : o.dst = some d) (hdt : d < nt) (hop : o.op = .binOp op t x y u) (hx : opd P t x = some x') (hy : opd P u y = some y')
    (h : (match (generalizing := false) P.underlying t, op with
      | some .bool, .eql => some (.eq d false false [0] x' y')
      | some .bool, .neq => some (.eq d true false [0] x' y')
      | some (.struct _), .eql => if P.eqGuardType P.depth t = false then (kinds P 10 t).map fun ks => .eq d false true ks x' y' else none
      | some (.struct _), .neq => if P.eqGuardType P.depth t = false then (kinds P 10 t).map fun ks => .eq d true true ks x' y' else none
      | some (.int _), _ => some (.bi d op x' y')
      | some .string, _ => some (.bi d op x' y')
      | some u, .eql => (nilKind u y).map fun k => .nq d false k x'
      | some u, .neq => (nilKind u y).map fun k => .nq d true k x'
      | _, _ => none) = some i) (hs : step (AP P gl) gl i st K) : o.wp P a w (After n0 gl nt w G ρ K) Q := by
  split at h
  · rename_i hu
    simp only [Option.some.injEq] at h; subst h
    exact sim_eq (neg := false) p hod hdt (by assumption) hx hy (by simp [kinds, hu]) (by simp [isStruct, hu]) (by simp) (fun _ => hu) hs
  · rename_i hu
    simp only [Option.some.injEq] at h; subst h
    exact sim_eq (neg := true) p hod hdt (by assumption) hx hy (by simp [kinds, hu]) (by simp [isStruct, hu]) (by simp) (fun _ => hu) hs
  · rename_i fs hu
    split at h
    · rename_i hg
      simp only [Option.map_eq_some_iff] at h
      obtain ⟨ks, hk, rfl⟩ := h
      exact sim_eq (neg := false) p hod hdt (by assumption) hx hy hk (by simp [isStruct, hu]) (fun _ => hg) (by simp) hs
    · simp at h
  · rename_i fs hu
    split at h
    · rename_i hg
      simp only [Option.map_eq_some_iff] at h
      obtain ⟨ks, hk, rfl⟩ := h
      exact sim_eq (neg := true) p hod hdt (by assumption) hx hy hk (by simp [isStruct, hu]) (fun _ => hg) (by simp) hs
    · simp at h
  · simp only [Option.some.injEq] at h; subst h
    exact sim_bi p hod hdt (by assumption) hx hy hs
  · simp only [Option.some.injEq] at h; subst h
    exact sim_bi p hod hdt (by assumption) hx hy hs
  · rename_i hu
    simp only [Option.map_eq_some_iff] at h
    obtain ⟨k, hk, rfl⟩ := h
    exact sim_nq (neg := false) p hod hdt (by assumption) hx hu hk hs
  · rename_i hu
    simp only [Option.map_eq_some_iff] at h
    obtain ⟨k, hk, rfl⟩ := h
    exact sim_nq (neg := true) p hod hdt (by assumption) hx hu hk hs
  · simp at h

theorem sim_conv {d s t : Nat} {x : Operand} {x' : O} {i : I} (p : Pre n0 gl nt w G ρ lam a st) (hod : o.dst = some d) (hdt : d < nt) (hop : o.op = .convert s t x) (hx : opd P s x = some x')
    (h : (match P.underlying s, P.underlying t with
      | some (.int _), some (.int k) => some (.ci d k x')
      | some .string, some .string => some (.cs d x')
      | some .string, some (.slice e) => match P.underlying e with
        | some (.int .u8) => if szOf P e = some 1 then some (.sb d x') else none
        | _ => none
      | some (.slice e), some .string => match P.underlying e with
        | some (.int .u8) => if szOf P e = some 1 then some (.bs d x') else none
        | _ => none
      | _, _ => none) = some i) (hs : step (AP P gl) gl i st K) : o.wp P a w (After n0 gl nt w G ρ K) Q := by
  split at h
  · rename_i h1 h2
    simp only [Option.some.injEq] at h; subst h
    exact sim_ci p hod hdt hop hx h1 h2 hs
  · rename_i h1 h2
    simp only [Option.some.injEq] at h; subst h
    simp only [step] at hs
    split at hs
    · rename_i l he
      exact sim_cs p hod hdt hop hx h1 h2 he (by simp only [step, he, snap]; exact hs)
    · exact hs.elim
  · rename_i e h1 h2
    split at h
    · rename_i h3
      split at h
      · simp only [Option.some.injEq] at h; subst h
        exact sim_sb p hod hdt hop hx h1 h2 h3 hs
      · simp at h
    · simp at h
  · rename_i e h1 h2
    split at h
    · rename_i h3
      split at h
      · simp only [Option.some.injEq] at h; subst h
        exact sim_bs p hod hdt hop hx h1 h2 h3 hs
      · simp at h
    · simp at h
  · simp at h

theorem args1 {xs : Array Operand} {x : Operand} (h : xs.toList = [x]) : xs = #[x] := Array.ext' h
theorem args2 {xs : Array Operand} {x y : Operand} (h : xs.toList = [x, y]) : xs = #[x, y] := Array.ext' h
theorem types1 {xs : Array TypeId} {x : TypeId} (h : xs.toList = [x]) : xs = #[x] := Array.ext' h
theorem types2 {xs : Array TypeId} {x y : TypeId} (h : xs.toList = [x, y]) : xs = #[x, y] := Array.ext' h

theorem sim_step {an : Ann} {m : AMap} {i : I} (p : Pre n0 gl nt w G ρ lam a st) (h : compOp P an m o = some i) (hd : dstOk nt o = true)
    (hs : step (AP P gl) gl i st K) : o.wp P a w (After n0 gl nt w G ρ K) Q := by
  have hdt : ∀ d, o.dst = some d → d < nt := by
    intro d h; unfold dstOk at hd; rw [h] at hd; simpa [Nat.blt_eq] using hd
  unfold compOp at h
  split at h
  all_goals (try simp only [Option.bind_eq_bind, Option.bind_eq_some_iff, Option.map_eq_some_iff, Option.some.injEq] at h)
  case h_1 =>
    rename_i x d hop hod
    split at h
    · split at h
      · simp only [Option.some.injEq] at h; subst h
        exact sim_tk p hod (hdt _ hod) hop hs
      · simp at h
    · simp only [Option.map_eq_some_iff] at h
      obtain ⟨y, hy, rfl⟩ := h
      exact sim_mv p hod (hdt _ hod) hop hy hs
  case h_2 =>
    rename_i x d hop hod
    obtain ⟨y, hy, rfl⟩ := h
    exact sim_asg p hod (hdt _ hod) hop hy hs
  case h_3 =>
    rename_i c x y d hop hod
    obtain ⟨c', hc, x', hx, y', hy, rfl⟩ := h
    exact sim_pk p hod (hdt _ hod) hop hc hx hy hs
  case h_4 =>
    rename_i e d hop hod
    obtain ⟨z, hz, h⟩ := h
    split at h
    · unfold bldI at h
      split at h
      · rename_i fs hu hzz
        split at h
        · split at h
          · split at h
            · simp only [Option.some.injEq] at h; subst h
              exact sim_hx p hod (hdt _ hod) hop hu hzz hs
            · simp at h
          · simp at h
        · simp at h
      · simp at h
    · simp only [Option.some.injEq] at h
      subst h
      split at hs
      · exact sim_ha p hod (hdt _ hod) hop hz hs
      · exact sim_la p hod (hdt _ hod) hop hz hs
  case h_5 =>
    rename_i e x d hop hod
    obtain ⟨n, hn, x', hx, rfl⟩ := h
    split at hs
    · exact sim_hb p hod (hdt _ hod) hop hx hs
    · exact sim_lb p hod (hdt _ hod) hop hx hs
  case h_6 =>
    rename_i t ps d hop hod
    obtain ⟨z, hz, qs, hq, h⟩ := h
    split at h
    · rename_i hrow
      simp only [Option.some.injEq] at h; subst h
      have hst : ∃ d, P.underlying t = some d ∧ d.isRow = true := by
        cases hu : P.underlying t with
        | none => rw [hu] at hrow; simp at hrow
        | some d => rw [hu] at hrow; exact ⟨d, rfl, by simpa using hrow⟩
      refine sim_bd p hod (hdt _ hod) hop hz hst ((mapM_all2 hq).imp ?_) hs
      rintro ⟨j, x⟩ ⟨off, n, y⟩ hh
      simp only [Option.bind_eq_some_iff, Option.some.injEq, Prod.mk.injEq] at hh
      obtain ⟨⟨o1, n1⟩, h1, y', h2, rfl, rfl, rfl⟩ := hh
      exact ⟨h1, _, h2⟩
    · simp at h
  case h_7 =>
    rename_i t len ps d hop hod
    obtain ⟨e, he, n, hn, z, hz, h⟩ := h
    split at h
    · rename_i hg
      simp only [Bool.and_eq_true, decide_eq_true_eq] at hg
      simp only [Option.bind_eq_some_iff, Option.some.injEq] at h
      obtain ⟨ys, hy, rfl⟩ := h
      have hq : All2 (fun x y => ∃ t, opd P t x = some y) (ps.toList.map (·.2)) ys := by
        have h2 := mapM_all2 hy
        clear hy hs hg hop
        generalize ps.toList = l at h2
        induction h2 with
        | nil => exact .nil
        | cons h1 _ ih => exact .cons ⟨_, h1⟩ ih
      split at hs
      · exact sim_lob p hod (hdt _ hod) hop (elemOf_some he) hn hg.2 hz hg.1.1 hg.1.2 hq hs
      · exact sim_li p hod (hdt _ hod) hop (elemOf_some he) hn hg.2 hz hg.1.1 hg.1.2 hq hs
    · simp at h
  case h_8 =>
    rename_i t x d hop hod
    obtain ⟨n, hn, ag, hag, x', hx, h⟩ := h
    split at h
    · rename_i h1
      have h1 : ag = false → n = 1 := by intro h; subst h; simpa using h1
      split at h <;> (simp only [Option.some.injEq] at h; subst h)
      · exact sim_ll p hod (hdt _ hod) hop hx hn hag h1 hs
      · exact sim_hl p hod (hdt _ hod) hop hx hn hag h1 hs
      · rename_i he _
        simp only [Bool.and_eq_true, Bool.not_eq_true'] at he
        obtain ⟨_, rfl⟩ := he
        exact sim_lt p hod (hdt _ hod) hop hx hag hs
      · rename_i he _
        simp only [Bool.and_eq_true, Bool.not_eq_true'] at he
        obtain ⟨_, rfl⟩ := he
        exact sim_ht p hod (hdt _ hod) hop hx hag hs
    · simp at h
  case h_9 =>
    rename_i t x y hop hod
    obtain ⟨n, hn, x', hx, y', hy, h⟩ := h
    split at h
    · split at h <;> (simp only [Option.some.injEq] at h; subst h)
      · exact sim_ls p hod hop hx hy hn hs
      · exact sim_hs p hod hop hx hy hn hs
    · simp at h
  case h_10 =>
    rename_i x d hop hod
    obtain ⟨x', hx, rfl⟩ := h
    exact sim_nc p hod (hdt _ hod) hop hx hs
  case h_11 =>
    rename_i op t x y u d hop hod
    obtain ⟨x', hx, y', hy, h⟩ := h
    exact sim_binop p hod (hdt _ hod) hop hx hy h hs
  case h_12 =>
    rename_i op t x d hop hod
    obtain ⟨x', hx, rfl⟩ := h
    exact sim_un p hod (hdt _ hod) hop hx hs
  case h_13 =>
    rename_i s t x d hop hod
    obtain ⟨x', hx, h⟩ := h
    exact sim_conv p hod (hdt _ hod) hop hx h hs
  case h_14 =>
    rename_i f xs cs d hop hod
    obtain ⟨ys, hy, zs, hz, rfl⟩ := h
    exact sim_mf p hod (hdt _ hod) hop (mapM_opd hy) (mapM_opd hz) hs
  case h_15 =>
    rename_i t d hop hod
    subst h
    exact sim_mm p hod (hdt _ hod) hop hs
  case h_16 =>
    rename_i t x lo hi mx d hop hod
    obtain ⟨x', hx, h⟩ := h
    split at h
    · rename_i hu
      split at h
      · rename_i hm
        simp only [Option.bind_eq_some_iff, Option.some.injEq] at h
        obtain ⟨lo', hl, hi', hh, rfl⟩ := h
        simp only [Option.isNone_iff_eq_none] at hm; subst hm
        exact sim_ss p hod (hdt _ hod) hop hx hl hh hu hs
      · simp at h
    · rename_i e hu
      simp only [Option.bind_eq_some_iff] at h
      obtain ⟨n, hn, h⟩ := h
      split at h
      · rename_i hg
        simp only [Bool.and_eq_true, Option.isNone_iff_eq_none] at hg
        simp only [Option.some.injEq] at h; subst h
        obtain ⟨⟨hlo, hhi⟩, hmx⟩ := hg
        obtain ⟨h1, rfl, k1, e1⟩ := isZero_eval (a := a) hhi
        obtain ⟨h2, rfl, k2, e2⟩ := isZero_eval (a := a) hmx
        subst hlo
        exact sim_em p hod (hdt _ hod) hop hx ⟨k1, e1⟩ ⟨k2, e2⟩ hu hn hs
      · split at h
        · simp at h
        · rename_i hmm
          simp only [Option.bind_eq_some_iff, Option.some.injEq] at h
          obtain ⟨lo', hl, hi', hh, mx', hm, rfl⟩ := h
          refine sim_sl p hod (hdt _ hod) hop hx hl hh hm ?_ hu hn hs
          intro h0; subst h0
          cases mx with
          | none => rfl
          | some _ => simp at hmm
    · simp at h
  case h_17 =>
    rename_i t x f d hop hod
    split at h
    · rename_i fs hu
      split at h
      · rename_i fl hf
        split at h
        · rename_i hz
          simp only [Option.map_eq_some_iff] at h
          obtain ⟨x', hx, rfl⟩ := h
          cases hz' : szOf P fl.type with
          | none => rw [hz'] at hz; simp at hz
          | some n =>
            rw [hz'] at hz
            exact sim_fa p hod (hdt _ hod) hop hx hu hf hz' (by simpa using hz) hs
        · simp at h
      · simp at h
    · simp at h
  case h_18 =>
    rename_i t x f d hop hod
    split at h
    · rename_i fs hu
      split at h
      · rename_i fl hf
        simp only [Option.bind_eq_some_iff] at h
        obtain ⟨n, hn, ag, hag, x', hx, h⟩ := h
        split at h
        · rename_i h1
          simp only [Option.some.injEq] at h; subst h
          exact sim_fd p hod (hdt _ hod) hop hx hu hf hn hag (by intro h; subst h; simpa using h1) hs
        · simp at h
      · simp at h
    · simp at h
  case h_19 =>
    rename_i t x y d hop hod
    obtain ⟨x', hx, y', hy, h⟩ := h
    split at h
    · rename_i e hu
      simp only [Option.bind_eq_some_iff] at h
      obtain ⟨n, hn, h⟩ := h
      split at h
      · rename_i hp
        simp only [Option.some.injEq] at h; subst h
        exact sim_ia_list p hod (hdt _ hod) hop hx hy hu hn (by simpa using hp) hs
      · simp at h
    · rename_i len e hu
      simp only [Option.bind_eq_some_iff] at h
      obtain ⟨n, hn, h⟩ := h
      split at h
      · simp only [Option.some.injEq] at h; subst h
        exact sim_aa p hod (hdt _ hod) hop hx hy hu hn hs
      · simp at h
    · simp at h
  case h_20 =>
    rename_i t x y d hop hod
    obtain ⟨x', hx, y', hy, h⟩ := h
    split at h
    · rename_i hu
      simp only [Option.some.injEq] at h; subst h
      exact sim_ix p hod (hdt _ hod) hop hx hy hu hs
    · rename_i len e hu
      simp only [Option.bind_eq_some_iff] at h
      obtain ⟨n, hn, ag, hag, h⟩ := h
      split at h
      · rename_i h1
        simp only [Option.some.injEq] at h; subst h
        exact sim_ax p hod (hdt _ hod) hop hx hy hu hn hag (by intro h; subst h; simpa using h1) hs
      · simp at h
    · simp at h
  case h_21 =>
    rename_i t l c d hop hod
    obtain ⟨e, he, z, hz, n, hn, b, hb, h⟩ := h
    split at h
    · rename_i hg
      simp only [Bool.and_eq_true, decide_eq_true_eq] at hg
      simp only [Option.bind_eq_some_iff, Option.some.injEq] at h
      obtain ⟨l', hl, rfl⟩ := h
      have hlc : a.eval c = a.eval l := by
        have := hg.1.1
        unfold sameTmp at this
        split at this
        · rw [Nat.eq_of_beq_eq_true this]
        · simp at this
      exact sim_mk p hod (hdt _ hod) hop hlc hl (elemOf_some he) hn hg.1.2 hz hb hg.2 rfl hs
    · simp at h
  case h_22 =>
    rename_i t x k ok d hop hod
    obtain ⟨x', hx, h⟩ := h
    split at h
    · rename_i kt et hu
      simp only [Option.bind_eq_some_iff, Option.some.injEq] at h
      obtain ⟨k', hk, z, hz, ks, hks, rfl⟩ := h
      exact sim_lk p hod (hdt _ hod) hop hx hk hu hz hks rfl hs
    · simp at h
  case h_23 =>
    rename_i t x k v hop hod
    obtain ⟨x', hx, h⟩ := h
    split at h
    · rename_i kt et hu
      simp only [Option.bind_eq_some_iff, Option.some.injEq] at h
      obtain ⟨ks, hks, k', hk, v', hv, rfl⟩ := h
      exact sim_mu p hod hop hx hk hv hu hks rfl hs
    · simp at h
  case h_24 =>
    rename_i t x d hop hod
    split at h
    · rename_i kt et hu
      simp only [Option.map_eq_some_iff] at h
      obtain ⟨x', hx, rfl⟩ := h
      exact sim_rg p hod (hdt _ hod) hop hx hu hs
    · simp at h
  case h_25 =>
    rename_i x d hop hod
    obtain ⟨x', hx, rfl⟩ := h
    exact sim_nx p hod (hdt _ hod) hop hx hs
  case h_26 =>
    rename_i x j d hop hod
    obtain ⟨x', hx, rfl⟩ := h
    exact sim_ex p hod (hdt _ hod) hop hx hs
  case h_27 =>
    rename_i c hop
    split at h
    · rename_i f hc
      simp only [Option.bind_eq_some_iff] at h
      obtain ⟨ys, hy, h⟩ := h
      have hy := zipIdx_opd (f := fun _ i => c.argTypes.getD i 0) hy
      split at h
      · split at h
        · rename_i k x y d he hod _
          simp only [Option.some.injEq] at h; subst h
          generalize hal : c.args.toList = al at hy
          cases hy with
          | cons h1 hy => cases hy with
            | cons h2 hy =>
              cases hy
              obtain ⟨t1, h1⟩ := h1
              obtain ⟨t2, h2⟩ := h2
              exact sim_x2 p hod (hdt _ hod) hop hc hal he h1 h2 hs
        · split at h
          · simp only [Option.some.injEq] at h; subst h
            exact sim_cp p rfl hdt hop hc hy hs
          · simp only [Option.some.injEq] at h; subst h
            exact sim_cl (t := 0) p rfl hdt hop hc rfl hy hs
      · simp only [Option.bind_eq_some_iff, Option.some.injEq] at h
        obtain ⟨f', hf, rfl⟩ := h
        exact sim_cl p rfl hdt hop hc hf hy hs
    · rename_i hc
      split at h
      · rename_i x t d h1 h2 hod
        obtain ⟨cc, ca, ct⟩ := c
        replace h1 := args1 h1
        replace h2 := types1 h2
        simp only at hc
        subst hc
        replace h1 : ca = _ := h1
        replace h2 : ct = _ := h2
        subst h1 h2
        split at h
        · rename_i hu
          simp only [Option.map_eq_some_iff] at h
          obtain ⟨x', hx, rfl⟩ := h
          exact sim_ln (str := true) p hod (hdt _ hod) hop hx (by simpa using hu) hs
        · rename_i e hu
          simp only [Option.map_eq_some_iff] at h
          obtain ⟨x', hx, rfl⟩ := h
          exact sim_ln (str := false) p hod (hdt _ hod) hop hx (by simpa using ⟨e, hu⟩) hs
        · simp at h
      · simp at h
    · rename_i hc
      split at h
      · rename_i s x t u d h1 h2 hod
        obtain ⟨cc, ca, ct⟩ := c
        replace h1 := args2 h1
        replace h2 := types2 h2
        simp only at hc
        subst hc
        replace h1 : ca = _ := h1
        replace h2 : ct = _ := h2
        subst h1 h2
        simp only [Option.bind_eq_some_iff] at h
        obtain ⟨e, he, n, hn, b, hb, z, hz, h⟩ := h
        obtain ⟨x', hx, h⟩ := h
        have key : ∀ desc, P.underlying u = some desc → srcDesc desc = true → (0 < n ∧ 0 < b) → some (if elemB d an.objs = true then I.apn d s x' n (140737488355328 / b) else I.ap d s x' n (140737488355328 / b)) = some i → o.wp P a w (After n0 gl nt w G ρ K) Q := by
          intro desc hu hdesc hg h
          simp only [Option.some.injEq] at h
          subst h
          split at hs
          · exact sim_apS (nw := true) p hod (hdt _ hod) hop hx (elemOf_some he) hn hg.1 hb hg.2 rfl hz hu hdesc hs
          · exact sim_apS (nw := false) p hod (hdt _ hod) hop hx (elemOf_some he) hn hg.1 hb hg.2 rfl hz hu hdesc hs
        split at h
        · rename_i hu
          simp only [Bool.true_and, Bool.and_eq_true, decide_eq_true_eq, Option.ite_none_right_eq_some] at h
          exact key _ hu rfl h.1 h.2
        · rename_i hu
          simp only [Bool.true_and, Bool.and_eq_true, decide_eq_true_eq, Option.ite_none_right_eq_some] at h
          exact key _ hu rfl h.1 h.2
        · simp at h
      · simp at h
    · rename_i hc
      split at h
      · rename_i x t h1 h2
        obtain ⟨cc, ca, ct⟩ := c
        replace h1 := args1 h1
        replace h2 := types1 h2
        simp only at hc
        subst hc
        replace h1 : ca = _ := h1
        replace h2 : ct = _ := h2
        subst h1 h2
        split at h
        · rename_i e hu
          simp only [Option.bind_eq_some_iff, Option.some.injEq] at h
          obtain ⟨z, hz, x', hx, rfl⟩ := h
          exact sim_clr p rfl hdt hop hx hu hz hs
        · simp at h
      · simp at h
    · rename_i hc
      split at h
      · rename_i x y d h1 hod
        obtain ⟨cc, ca, ct⟩ := c
        replace h1 := args2 h1
        simp only at hc
        subst hc
        replace h1 : ca = _ := h1
        subst h1
        simp only [Option.bind_eq_some_iff, Option.some.injEq] at h
        obtain ⟨x', hx, y', hy, rfl⟩ := h
        exact sim_mn (lt := false) p hod (hdt _ hod) hop hx hy hs
      · simp at h
    · rename_i hc
      split at h
      · rename_i x y d h1 hod
        obtain ⟨cc, ca, ct⟩ := c
        replace h1 := args2 h1
        simp only at hc
        subst hc
        replace h1 : ca = _ := h1
        subst h1
        simp only [Option.bind_eq_some_iff, Option.some.injEq] at h
        obtain ⟨x', hx, y', hy, rfl⟩ := h
        exact sim_mn (lt := true) p hod (hdt _ hod) hop hx hy hs
      · simp at h
    · simp at h
  case h_28 => simp at h

end
end Go.Vm
end

section
/- Code, translated, against the kit's: what is forgotten at a loop's head and at a function's end. Conditions: none. -/
namespace Go.Vm

section
variable {P : Program} {gl : Nat → List D} {n0 nt : Nat} {a : Act} {w w' : World} {G G' : Gh} {ρ ρ' : List Nat} {lam lam' : Nat → Option Nat} {st st' : St} {K : St → Prop} {o : Oper} {Q : Exit → Act → World → Prop}

theorem take_get {l : List Nat} {m i b : Nat} (hi : i < m) (h : l[i]? = some b) : (l.take m)[i]? = some b := by
  rw [List.getElem?_take, if_pos hi]; exact h

theorem okR_A {m : Nat} : ∀ (n : Nat) {v : Value} {x : Val}, RelA w G ρ v x → okR m n x = true → RelA w G (ρ.take m) v x := by
  intro n
  induction n with
  | zero =>
    intro v x h ho
    cases h with
    | undef v => exact .undef v
    | d _ _ h => exact .d _ _ h
    | nil a s => exact .nil a s
    | ptr _ _ _ h => exact .ptr _ _ _ (take_get (by simpa [okR, Nat.blt_eq] using ho) h)
    | map _ _ h => exact .map _ _ (take_get (by simpa [okR, Nat.blt_eq] using ho) h)
    | sl _ _ _ _ _ _ _ h hc hz => exact .sl _ _ _ _ _ _ _ (take_get (by simpa [okR, Nat.blt_eq] using ho) h) hc hz
    | func _ _ _ _ _ _ _ => simp [okR] at ho
    | agg _ _ _ => simp [okR] at ho
    | tuple _ _ _ => simp [okR] at ho
    | yl _ _ h => exact .yl _ _ (take_get (by simpa [okR, Nat.blt_eq] using ho) h)
  | succ n ih =>
    have hL : ∀ {vs : List Value} {xs : List Val}, RelL w G ρ vs xs → (∀ x, x ∈ xs → okR m n x = true) → RelL w G (ρ.take m) vs xs := by
      intro vs
      induction vs with
      | nil => intro xs h _; cases h; exact .nil
      | cons v vs ihv =>
        intro xs h ho
        cases h with
        | cons _ x _ xs h1 h2 => exact .cons _ _ _ _ (ih h1 (ho x (by simp))) (ihv h2 fun y hy => ho y (by simp [hy]))
    intro v x h ho
    cases h with
    | undef v => exact .undef v
    | d _ _ h => exact .d _ _ h
    | nil a s => exact .nil a s
    | ptr _ _ _ h => exact .ptr _ _ _ (take_get (by simpa [okR, Nat.blt_eq] using ho) h)
    | map _ _ h => exact .map _ _ (take_get (by simpa [okR, Nat.blt_eq] using ho) h)
    | sl _ _ _ _ _ _ _ h hc hz => exact .sl _ _ _ _ _ _ _ (take_get (by simpa [okR, Nat.blt_eq] using ho) h) hc hz
    | func _ _ _ _ _ h1 h2 =>
      simp only [okR, List.all_append, Bool.and_eq_true, List.all_eq_true] at ho
      exact .func _ _ _ _ _ (hL h1 ho.1) (hL h2 ho.2)
    | agg _ _ h1 =>
      simp only [okR, List.all_eq_true] at ho
      exact .agg _ _ (hL h1 ho)
    | tuple _ _ h1 =>
      simp only [okR, List.all_eq_true] at ho
      exact .tuple _ _ (hL h1 ho)
    | yl _ _ h => exact .yl _ _ (take_get (by simpa [okR, Nat.blt_eq] using ho) h)

theorem okR_V {m n : Nat} {L : Loc} {v : Value} {x : Val} (h : RelV w G ρ L v x) (ho : okR m n x = true) : RelV w G (ρ.take m) L v x := by
  rcases h.cases with h | ⟨sz, d, l, rfl, h⟩
  · exact .of_A (okR_A n h ho)
  · exact h

theorem okR_box {m b : Nat} {L : Loc} {LC : Nat → Loc} {cs : List Val} (h : RelBox w G ρ b L LC cs) (ho : cs.all (okR m depth) = true) : RelBox w G (ρ.take m) b L LC cs := by
  obtain ⟨c, E, fz, h1, h2, h3, h4, h5⟩ := h
  exact ⟨c, E, fz, h1, h2, h3, h4, fun j v x hv hx => okR_V (h5 j v x hv hx) (List.all_eq_true.1 ho x (List.mem_of_getElem? hx))⟩

theorem okR_obs {m : Nat} {s : Store} (h : RelObs w G ρ s) (ho : (s.take m).all (Ob.okR m) = true) : RelObs w G (ρ.take m) (s.take m) := by
  refine ⟨by simp [h.1], ?_⟩
  intro i b o hb hs
  rw [List.getElem?_take] at hb hs
  split at hb
  · rename_i hi
    rw [if_pos hi] at hs
    have hoo := List.all_eq_true.1 ho o (List.mem_of_getElem? (i := i) (by rw [List.getElem?_take, if_pos hi]; exact hs))
    have hr := h.2 i b o hb hs
    cases o with
    | box cs => exact okR_box hr hoo
    | map es =>
      obtain ⟨mes, clock, h1, h2, h3, h4⟩ := hr
      refine ⟨mes, clock, h1, h2, h3, fun j e p he hp => ⟨(h4 j e p he hp).1, okR_A depth (h4 j e p he hp).2 ?_⟩⟩
      simp only [Ob.okR, List.all_eq_true] at hoo
      exact hoo p (List.mem_of_getElem? hp)
    | dead => trivial
    | bld t e bs => exact hr
    | itr m =>
      rcases hr with hr | ⟨k, b2, since, last, h1, h2, h3⟩
      · exact .inl hr
      · subst h1
        simp only [Ob.okR, Option.all_some, Nat.blt_eq] at hoo
        exact .inr ⟨k, b2, since, last, rfl, by rw [List.getElem?_take, if_pos hoo]; exact h2, h3⟩
  · simp at hb

theorem mkT_get (tm : Nat → Val) (t : Nat) : ∀ ts : List Nat, mkT tm ts t = if t ∈ ts then tm t else .undef
  | [] => by simp [mkT]
  | s :: ts => by
    simp only [mkT, upd_eq, mkT_get tm t ts, List.mem_cons]
    by_cases h : t = s
    · simp [h]
    · simp [h]

theorem mkB_get (bx : Nat → Option (List Val)) (t : Nat) : ∀ bs : List Nat, mkB bx bs t = if t ∈ bs then bx t else none
  | [] => by simp [mkB]
  | s :: bs => by
    simp only [mkB, upd_eq, mkB_get bx t bs, List.mem_cons]
    by_cases h : t = s
    · simp [h]
    · simp [h]

theorem keeps_spec {tm : Nat → Val} {bs : List Nat} : ∀ {ts : List Nat}, keeps tm bs ts = true → ∀ t, t ∈ ts → ∀ u off, tm t = .lref u off → u ∈ bs
  | [], _, t, ht => by simp at ht
  | s :: ts, h, t, ht => by
    simp only [keeps, Bool.and_eq_true] at h
    intro u off hu
    rcases List.mem_cons.1 ht with rfl | ht
    · have := h.1
      rw [hu] at this
      exact elemB_iff.1 this
    · exact keeps_spec h.2 t ht u off hu

/-- Nothing is said of what is forgotten. -/
theorem Pre.forget {n : Nat} {ts bs : List Nat} (p : Pre n0 gl nt w G ρ lam a st) (hk : keeps st.tm bs ts = true) :
    ∃ ρ' lam', Pre n0 gl nt w G ρ' lam' a (forgot n ts bs st) ∧ (ρ' = ρ ∨ ρ' = ρ.take n) := by
  -- the slots and the boxes
  let lam' : Nat → Option Nat := fun t => if t ∈ bs then lam t else none
  have h1 : RelS gl w G ρ lam' a.tmps ⟨mkT st.tm ts, mkB st.bx bs, st.s⟩ := by
    refine ⟨?_, ?_, ?_, p.rel.ob, p.rel.gb, p.rel.lt⟩
    · intro t
      simp only [mkT_get]
      split
      · rename_i ht
        have := p.rel.tm t
        rcases this.cases with h | ⟨u, off, b, e, h1, h2⟩
        · exact .of_V h
        · rw [e]
          refine ⟨b, ?_, h2⟩
          simp only [lam']
          rw [if_pos (keeps_spec hk t ht u off e)]; exact h1
      · exact .of_A (.undef _)
    · intro t cs hb
      simp only [mkB_get] at hb
      split at hb
      · rename_i ht
        obtain ⟨b, h1, h2⟩ := p.rel.bx t cs hb
        exact ⟨b, by simp only [lam']; rw [if_pos ht]; exact h1, h2⟩
      · simp at hb
    · intro t hb
      simp only [mkB_get] at hb
      simp only [lam']
      split at hb
      · rename_i ht; rw [if_pos ht]; exact p.rel.nb t hb
      · rename_i ht; rw [if_neg ht]
  unfold forgot
  cases hc : (ts.all (fun t => okR n depth (st.tm t)) && bs.all (okB n st.bx) && (st.s.take n).all (Ob.okR n)) with
  | false => exact ⟨ρ, lam', ⟨h1, p.df, p.sz⟩, .inl rfl⟩
  | true =>
    simp only [Bool.and_eq_true] at hc
    refine ⟨ρ.take n, lam', ⟨⟨?_, ?_, h1.nb, okR_obs p.rel.ob hc.2, p.rel.gb, p.rel.lt⟩, p.df, p.sz⟩, .inr rfl⟩
    · intro t
      simp only
      have := h1.tm t
      simp only [mkT_get] at this ⊢
      split
      · rename_i ht
        rw [if_pos ht] at this
        have ho := List.all_eq_true.1 hc.1.1 t ht
        rcases this.cases with h | ⟨u, off, b, e, h1, h2⟩
        · exact .of_V (okR_V h ho)
        · rw [e]; exact ⟨b, h1, h2⟩
      · exact .of_A (.undef _)
    · intro t cs hb
      simp only at hb
      obtain ⟨b, h2, h3⟩ := h1.bx t cs hb
      refine ⟨b, h2, okR_box h3 ?_⟩
      simp only [mkB_get] at hb
      split at hb
      · rename_i ht
        have ho := List.all_eq_true.1 hc.1.2 t ht
        simp only [okB, hb] at ho
        exact ho
      · simp at hb

end
end Go.Vm
end

section
/- An element of many cells is appended: the kit lays it behind the append. Conditions: none. -/
set_option linter.unusedSimpArgs false
namespace Go.Vm

section
variable {P : Program} {gl : Nat → List D} {n0 nt : Nat} {a : Act} {w w' : World} {G G' : Gh} {ρ ρ' : List Nat} {lam lam' : Nat → Option Nat} {st st' : St} {K : St → Prop} {o : Oper} {Q : Exit → Act → World → Prop}

/-- Cells laid behind a slice's end, in its own block. -/
theorem own_fits_rel {d s b off cap sz : Nat} {tmps : Array Value} {c c' : Array Value} {E : TypeId} {fz : Nat × Nat} {vs us : List Value} {q : D} {l3 l2 : List D} {w1 : World} (hrel : RelS gl w G ρ lam tmps st)
    (_h2 : (q :: l3).length ≤ cap) (h3 : w.heap[b]? = some (.cells c E fz)) (h4 : ∀ j, j < c.size → ¬ (fz.1 ≤ j ∧ j < fz.2)) (h5 : off + cap * sz ≤ c.size) (h6 : 0 < sz) (h7 : G b = some (.slot s, off + (q :: l3).length * sz)) (h8 : ∀ d, d ∈ q :: l3 → d.cells.length = sz)
    (h9 : CellsAt w G b off vs) (h10 : RdL w G vs ((q :: l3).flatMap D.cells)) (hfit : (q :: l3).length + l2.length ≤ cap) (hus : RdL w G us (l2.flatMap D.cells)) (hone : ∀ u, u ∈ us → u.oneCell' = true) (hl2 : ∀ d, d ∈ l2 → d.cells.length = sz)
    (w1a : w1.heap[b]? = some (.cells c' E fz)) (w1b : c'.size = c.size) (w1c : ∀ j, j < off + (q :: l3).length * sz → c'[j]? = c[j]?) (w1d : ∀ j v, us[j]? = some v → c'[off + (q :: l3).length * sz + j]? = some v)
    (w1e : ∀ b', b' ≠ b → w1.heap[b']? = w.heap[b']?) (w1f : w1.heap.size = w.heap.size) (w1g : w1.os = w.os) (w1h : w1.output = w.output) :
    ∃ G', RelS gl w1 G' ρ lam tmps (st.set s .undef) ∧ Good w G w1 G' ∧ RelV w1 G' ρ (.slot d) (.slice (some ⟨b, off, none⟩) ((q :: l3).length + l2.length) cap) (.own sz (q :: l3 ++ l2)) := by
  have hvl : vs.length = (q :: l3).length * sz := by rw [h10.length]; exact flatMap_len h8
  have hul : us.length = l2.length * sz := by rw [hus.length]; exact flatMap_len hl2
  obtain ⟨hk, hsame, hgood, hltn⟩ := ext_facts (w := w) (L' := .slot d) (m' := off + ((q :: l3).length + l2.length) * sz) h7 (by rw [Nat.add_mul]; omega) h3 w1a w1c (Nat.le_of_eq w1b.symm) w1e w1f hrel.lt (by simp) (by simp) w1g w1h
  refine ⟨_, ⟨fun t => ?_, ?_, hrel.nb, hrel.ob.tr hk (fun _ => hsame _ (by simp)) (fun _ _ => hsame _ (by simp)), hrel.gb.tr hk, hltn⟩, hgood, ?_⟩
  · simp only [St.set, upd_eq]
    by_cases hts : t = s
    · simp only [hts, if_true]; exact .of_A (.undef _)
    · simp only [hts, if_false]
      exact (hrel.tm t).tr hk (fun _ _ h => h) (fun _ _ h => h) (hsame _ (by simp [hts]))
  · intro t cs hb
    obtain ⟨b2, g1, g2⟩ := hrel.bx t cs hb
    exact ⟨b2, g1, RelBox.tr hk (fun _ _ h => h) (hsame _ (by simp)) (fun j => hsame _ (by simp)) g2⟩
  · have hll : (q :: l3 ++ l2).length = (q :: l3).length + l2.length := List.length_append
    refine ⟨b, off, cap, c', E, fz, vs ++ us, by rw [← hll]; rfl, by rw [← hll] at hfit; exact hfit, w1a, by rw [w1b]; exact h4, by rw [w1b]; exact h5, h6, ?_, ?_, ?_, ?_⟩
    · rw [upd_self, ← hll]; rfl
    · intro d hd
      rcases List.mem_append.1 (show d ∈ (q :: l3) ++ l2 from hd) with h | h
      · exact h8 d h
      · exact hl2 d h
    · intro j v hv
      rcases Nat.lt_or_ge j vs.length with hj | hj
      · rw [List.getElem?_append_left hj] at hv
        exact hk.1 _ _ _ (h9 j v hv)
      · rw [List.getElem?_append_right hj] at hv
        have hj2 : j - vs.length < us.length := by
          rcases Nat.lt_or_ge (j - vs.length) us.length with h | h
          · exact h
          · rw [List.getElem?_eq_none h] at hv; simp at hv
        refine ⟨?_, ?_, hone v (List.mem_of_getElem? hv)⟩
        · rw [cell_of_block w1a]
          have := w1d (j - vs.length) v hv
          rw [show off + (q :: l3).length * sz + (j - vs.length) = off + j by omega] at this
          exact this
        · intro L2 n hG
          rw [upd_self] at hG
          simp only [Option.some.injEq, Prod.mk.injEq] at hG
          have : ((q :: l3).length + l2.length) * sz = (q :: l3).length * sz + l2.length * sz := Nat.add_mul _ _ _
          omega
    · have := (h10.keep hk).append (hus.keep hk)
      rw [← List.flatMap_append] at this
      exact this

theorem setCells_at {b : Nat} {us : List Value} {k : Nat} {w : World} {c : Array Value} {E : TypeId} {fz : Nat × Nat} (h : w.heap[b]? = some (.cells c E fz)) (hl : k + us.length ≤ c.size) :
    ∃ c', (w.setCells b k us).heap[b]? = some (.cells c' E fz) ∧ c'.size = c.size ∧ (∀ j, j < k ∨ k + us.length ≤ j → c'[j]? = c[j]?) ∧ (∀ j v, us[j]? = some v → c'[k + j]? = some v) ∧
      (∀ b', b' ≠ b → (w.setCells b k us).heap[b']? = w.heap[b']?) ∧ (w.setCells b k us).heap.size = w.heap.size := by
  have := own_write (b := b) (m := 0) (us := us) (k := k) h (by omega)
  simpa using this

theorem storeAt_run {b off t : Nat} {v : Value} {c : Array Value} {E : TypeId} {fz : Nat × Nat} (e1 : w.heap[b]? = some (.cells c E fz)) (e2 : ∀ j, j < c.size → ¬ (fz.1 ≤ j ∧ j < fz.2)) (hn : off + v.cells.size ≤ c.size) (hz : szOf P t = some v.cells.size) (h1 : ∀ u ∈ v.cells.toList, u.oneCell' = true) :
    (Instr.storeAt t (.pointer (some ⟨b, off, none⟩)) v).run P w = .ok () (w.setCells b off v.cells.toList) := by
  have := run_storeCells_cells (P := P) b off v.cells.toList 0 w
    (fun j hj => by
      rw [Nat.add_zero, cell_of_block e1]
      have hlt : off + j < c.size := by simp at hj; omega
      simp [hlt])
    (fun j hj => by
      rw [Nat.add_zero, frozen_of_block e1]
      have hlt : off + j < c.size := by simp at hj; omega
      have := e2 _ hlt
      simp only [Bool.and_eq_false_imp, decide_eq_true_eq, decide_eq_false_iff_not]
      exact fun h1 h2 => this ⟨h1, h2⟩)
    h1
  simp only [Nat.add_zero] at this
  simp [Instr.storeAt, Instr.sureAddr, storeVar, Sem.run_bind, szOf_run hz, this]

/-- What is told of three operations that append an element of many cells. -/
structure IsApx (P : Program) (o1 o2 o3 : Oper) (d s z i e sz bnd : Nat) (y : O) : Prop where
  ex : ∃ (t u e0 bt : Nat) (zz : List Val) (x : Operand) (t3 : Nat), o1.op = .call { callee := .builtin .append, args := #[.tmp s, .tmp z], argTypes := #[t, u] } ∧ o1.dst = some d ∧ o1.guard = none ∧
    o2.op = .indexAddr t (.tmp d) (.tmp i) ∧ o2.dst = some e ∧ o2.guard = none ∧ o3.op = .store e0 (.tmp e) x ∧ o3.dst = none ∧ o3.guard = none ∧
    P.underlying t = some (.slice e0) ∧ P.underlying u = some (.slice e0) ∧ szOf P e0 = some sz ∧ bytesOf P e0 = some bt ∧ zeros P e0 = some zz ∧ opd P t3 x = some y ∧ 0 < sz ∧ 0 < bt ∧ bnd = 140737488355328 / bt ∧
    d ≠ i ∧ e ≠ d ∧ e ≠ i ∧ (∀ q, y = .t q → q ≠ e ∧ q ≠ d)

theorem isApx_spec {an : Ann} {o1 o2 o3 : Oper} {d e : Nat} {ins : I} (h : isApx P an o1 o2 o3 = some (d, ins, e)) : ∃ s z i y sz bnd, ins = .apx d s z i y sz bnd ∧ IsApx P o1 o2 o3 d s z i e sz bnd y := by
  unfold isApx at h
  split at h
  · rename_i c d0 t2 d2 i e2 t3 e3 x h1 h2 h3 h4 h5 h6
    split at h
    · rename_i s z t u hc ha ht
      simp only [Option.bind_eq_bind, Option.bind_eq_some_iff] at h
      obtain ⟨e0, he0, e0', he0', n, hn, b, hb, zz, hzz, y, hy, h⟩ := h
      split at h
      · rename_i hg
        simp only [Option.some.injEq, Prod.mk.injEq] at h
        obtain ⟨rfl, rfl, rfl⟩ := h
        simp only [Bool.and_eq_true, decide_eq_true_eq, Bool.not_eq_true', Option.isNone_iff_eq_none] at hg
        obtain ⟨⟨⟨⟨⟨⟨⟨⟨⟨⟨⟨⟨⟨⟨⟨g1, g2⟩, g3⟩, g4⟩, g5⟩, g6⟩, g7⟩, g8⟩, g9⟩, g10⟩, g11⟩, g12⟩, g13⟩, g14⟩, g15⟩, g16⟩ := hg
        subst g1 g2 g3 g4 g5
        refine ⟨s, z, i, y, n, _, rfl, ⟨t2, u, t3, b, zz, x, t3, ?_, h2, g14, h3, h4, g15, h5, h6, g16, elemOf_some he0, elemOf_some he0', hn, hb, hzz, hy, by omega, g13, rfl, g6, g7, ?_, ?_⟩⟩
        · obtain ⟨cc, ca, ct⟩ := c
          replace ha := args2 ha
          replace ht := types2 ht
          simp only at hc
          subst hc
          replace ha : ca = _ := ha
          replace ht : ct = _ := ht
          subst ha ht
          exact h1
        · rintro rfl; simp [elemB] at g10
        · intro q hq
          subst hq
          constructor
          · rintro rfl; simp [O.slots, elemB] at g8
          · rintro rfl; simp [O.slots, elemB] at g9
      · simp at h
    · simp at h
  · simp at h

/-- The runs of the three, and what they come to. -/
def ApxEnd (P : Program) (gl : Nat → List D) (w : World) (G : Gh) (ρ : List Nat) (lam : Nat → Option Nat) (a : Act) (st : St) (K : St → Prop) (o1 o2 o3 : Oper) (d s i e : Nat) : Prop :=
    ∃ (v1 v2 : Value) (w1 : World) (b pos : Nat) (us : List Value) (xo : Operand) (x2 : Val) (G' : Gh) (n : Nat) (c1 : Array Value) (E : TypeId) (fz : Nat × Nat), o3.op.operands.toList = [.tmp e, xo] ∧
      (execOp a.eval o1).run P w = .ok (.value v1) w1 ∧
      (∀ (a' : Act) (w' : World), a'.tmps.getD d undef = v1 → a'.tmps.getD i undef = a.tmps.getD i undef → (execOp a'.eval o2).run P w' = .ok (.value v2) w') ∧
      (∀ (a' : Act) (w' : World), a'.tmps.getD e undef = v2 → a'.eval xo = a.eval xo → w'.heap[b]? = some (.cells c1 E fz) → (execOp a'.eval o3).run P w' = .ok .skip (w'.setCells b pos us)) ∧
      w1.heap[b]? = some (.cells c1 E fz) ∧ pos + us.length ≤ c1.size ∧ G' b = some (.slot d, n) ∧
      RelS gl (w1.setCells b pos us) G' ρ lam a.tmps (st.set s .undef) ∧ Good w G (w1.setCells b pos us) G' ∧ RelT (w1.setCells b pos us) G' ρ lam (.slot d) v1 x2 ∧ K ((st.set s .undef).set d x2)

theorem apx_runs {o1 o2 o3 : Oper} {d s z i e sz bnd : Nat} {y : O} (p : Pre n0 gl nt w G ρ lam a st) (hx : IsApx P o1 o2 o3 d s z i e sz bnd y) (hs : step (AP P gl) gl (.apx d s z i y sz bnd) st K) :
    ApxEnd P gl w G ρ lam a st K o1 o2 o3 d s i e := by
  obtain ⟨t, u, e0, bt, zz, x, t3, q1, q2, q3, q4, q5, q6, q7, q8, q9, hu, hu2, hsz, hbt, hzz, hy, hpos, hb0, hbnd, n1, n2, n3, n4⟩ := hx.ex
  obtain ⟨i1, zv, hi, hzv, hz1, hz2, _⟩ := zeros_spec hzz
  have hib : i1.bytes = bt := by unfold bytesOf at hbt; rw [hi] at hbt; simpa using hbt
  have hisz : zv.cells.size = sz := by unfold szOf at hsz; rw [hi] at hsz; simp at hsz; omega
  simp only [step] at hs
  split at hs
  · rename_i sz1 l sz2 zd k n dx e1 e2 e3 e4
    obtain ⟨hg, hs⟩ := hs
    simp only [Bool.and_eq_true, decide_eq_true_eq] at hg
    obtain ⟨⟨⟨⟨⟨g1, g2⟩, g3⟩, g4⟩, g5⟩, g6⟩ := hg
    obtain rfl : sz1 = sz := Nat.eq_of_beq_eq_true g1
    obtain rfl : sz2 = sz1 := Nat.eq_of_beq_eq_true g2
    have g4 := Nat.le_of_ble_eq_true g4
    have g5 := Nat.eq_of_beq_eq_true g5
    -- the element
    obtain ⟨Lx, hTx⟩ := ev_any hy p.rel
    have hxr := hTx.toD e4
    have hxL := hxr.cellsL
    have hxl : (a.eval x).cells.size = sz2 := by rw [← Array.length_toList, hxL.length, g5]
    have hxtl : (a.eval x).cells.toList.length = sz2 := by rw [Array.length_toList]; exact hxl
    have hxone : ∀ v, v ∈ (a.eval x).cells.toList → v.oneCell' = true := by
      have := one_of_rd (vs := (a.eval x).cells.toList) (l := [dx]) (by simpa using hxL) (by simpa using g6)
      exact this
    -- the zero element
    have hTz := p.rel.tm z
    obtain ⟨us0, hsrc, hus0, hl0⟩ := listOf_is (P := P) hTz e2 hpos
    obtain ⟨hlen, hread2, hone0, hul0⟩ := hsrc
    have hul0 : us0.length = sz2 := by simpa using hul0
    have hTs := p.rel.tm s
    rw [e1] at hTs
    have hVs : RelV w G ρ (.slot s) (a.tmps.getD s undef) (.own sz2 l) := hTs
    have hbig : (l.length + 1) * bt ≤ 140737488355328 := by
      have := Nat.mul_le_mul_right bt g4
      rw [hbnd] at this
      exact Nat.le_trans this (Nat.div_mul_le_self _ _)
    have hTi := p.rel.tm i
    rw [e3] at hTi
    have hvi := hTi.int
    have hx2 : ∀ (b off len cap : Nat) (a' : Act) (w' : World), len = l.length + 1 → a'.tmps.getD d undef = .slice (some ⟨b, off, none⟩) len cap → a'.tmps.getD i undef = a.tmps.getD i undef →
        (execOp a'.eval o2).run P w' = .ok (.value (.pointer (some ⟨b, off + l.length * sz2, none⟩))) w' := by
      intro b off len cap a' w' hlen' hd' hi'
      have h1 : a'.eval (.tmp d) = .slice (some ⟨b, off, none⟩) len cap := hd'
      have h2 : a'.eval (.tmp i) = .int k n := by show a'.tmps.getD i undef = _; rw [hi', hvi]
      have h3 : 0 ≤ n ∧ n < (len : Int) := by subst hlen'; omega
      have h4 : n.toNat = l.length := by omega
      simp only [execOp, q4, h1, h2, Instr.indexAt, asIntOf, Sem.run_bind, Sem.run_pure, Result.andThen_ok, underlying_run hu, if_pos h3, szOf_run hsz, Addr.add_mid, h4]
    have hx3 : ∀ (b pos : Nat) (c1 : Array Value) (E : TypeId) (fz : Nat × Nat), (∀ j, j < c1.size → ¬ (fz.1 ≤ j ∧ j < fz.2)) → pos + sz2 ≤ c1.size → ∀ (a' : Act) (w' : World), a'.tmps.getD e undef = .pointer (some ⟨b, pos, none⟩) → a'.eval x = a.eval x →
        w'.heap[b]? = some (.cells c1 E fz) → (execOp a'.eval o3).run P w' = .ok .skip (w'.setCells b pos (a.eval x).cells.toList) := by
      intro b pos c1 E fz hfz hle a' w' he' hx' hb'
      have h1 : a'.eval (.tmp e) = .pointer (some ⟨b, pos, none⟩) := he'
      have := storeAt_run (P := P) (t := e0) (v := a.eval x) hb' hfz (by rw [hxl]; exact hle) (by rw [hxl]; exact hsz) hxone
      simp only [execOp, q7, h1, hx', Sem.run_bind, this, Result.andThen_ok, Sem.run_pure]
    -- a new block takes all
    have grow : ∀ (ad : Option Addr) (cap : Nat) (olds : List Value), a.tmps.getD s undef = .slice ad l.length cap → (∀ w2 : World, w2.heap = w.heap → (Builtin.firstCells sz2 l.length (.slice ad l.length cap)).run P w2 = .ok ⟨olds⟩ w2) →
        RdL w G olds (l.flatMap D.cells) → (∀ u, u ∈ olds → u.oneCell' = true) → (∀ d, d ∈ l → d.cells.length = sz2) → cap < l.length + 1 → ApxEnd P gl w G ρ lam a st K o1 o2 o3 d s i e := by
      intro ad cap olds hv hold holds ho1 hl hlt
      obtain ⟨cap', w1, hrun, hcap', hgrew⟩ := append_grows (P := P) (ty := o1.type) (base := ad) (x := a.tmps.getD z undef) hu hsz hi hib hzv hu2 rfl hlen hread2 hold hlt hb0 hbig
      rw [← hv] at hrun
      replace hcap' : l.length + 1 ≤ cap' := by simpa using hcap'
      have hol : olds.length = l.length * sz2 := by rw [holds.length]; exact flatMap_len hl
      have hzc : (Builtin.zeroCells zv.cells (cap' - (l.length + 1))).toList.length = (cap' - (l.length + 1)) * sz2 := by
        simp [Builtin.zeroCells, hisz]
      have hc1 : w1.heap[w.heap.size]? = some (.cells ⟨(olds ++ us0) ++ (Builtin.zeroCells zv.cells (cap' - (l.length + 1))).toList⟩ e0 (0, 0)) := hgrew.new
      have hroom : l.length * sz2 + (a.eval x).cells.toList.length ≤ (⟨(olds ++ us0) ++ (Builtin.zeroCells zv.cells (cap' - (l.length + 1))).toList⟩ : Array Value).size := by
        simp only [List.size_toArray, List.length_append, hol, hul0, hxtl]
        omega
      obtain ⟨c3, x1, x2, x3, x4, x5, x6⟩ := setCells_at (us := (a.eval x).cells.toList) (k := l.length * sz2) hc1 hroom
      have hc3 : c3 = ⟨(olds ++ (a.eval x).cells.toList) ++ (Builtin.zeroCells zv.cells (cap' - (l.length + 1))).toList⟩ := by
        apply Array.ext'
        apply List.ext_getElem?
        intro j
        rw [Array.getElem?_toList]
        rcases Nat.lt_or_ge j (l.length * sz2) with hj | hj
        · rw [x3 j (.inl hj), List.getElem?_toArray, List.append_assoc, List.append_assoc, List.getElem?_append_left (by omega), List.getElem?_append_left (by omega)]
        · rcases Nat.lt_or_ge j (l.length * sz2 + sz2) with hj2 | hj2
          · have hjx : j - l.length * sz2 < (a.eval x).cells.toList.length := by rw [hxtl]; omega
            have := x4 (j - l.length * sz2) _ (List.getElem?_eq_getElem hjx)
            rw [show l.length * sz2 + (j - l.length * sz2) = j by omega] at this
            rw [this, List.append_assoc, List.getElem?_append_right (by omega), hol, List.getElem?_append_left hjx, List.getElem?_eq_getElem hjx]
          · rw [x3 j (.inr (by rw [hxtl]; exact hj2)), List.getElem?_toArray, List.append_assoc, List.append_assoc, List.getElem?_append_right (by omega), List.getElem?_append_right (by omega), List.getElem?_append_right (by omega), List.getElem?_append_right (by rw [hxtl]; omega), hul0, hxtl]
      subst hc3
      have hg3 : Grew w (.cells ⟨(olds ++ (a.eval x).cells.toList) ++ (Builtin.zeroCells zv.cells (cap' - (l.length + 1))).toList⟩ e0) (w1.setCells w.heap.size (l.length * sz2) (a.eval x).cells.toList) := by
        refine ⟨?_, setCells_env.1.trans hgrew.os, setCells_env.2.trans hgrew.out⟩
        apply Array.ext_getElem?
        intro j
        by_cases hj : j = w.heap.size
        · subst hj
          rw [x1, Array.getElem?_push]; simp
        · rw [x5 j hj, hgrew.heap, Array.getElem?_push, Array.getElem?_push, if_neg hj, if_neg hj]
      have hlen2 : (l ++ [dx]).length = l.length + 1 := by simp
      have hall : ∀ d, d ∈ l ++ [dx] → d.cells.length = sz2 := by
        intro d hd
        rcases List.mem_append.1 hd with h | h
        · exact hl d h
        · rw [List.mem_singleton.1 h]; exact g5
      have hnew := new_own (ρ := ρ) (d := d) (cap := cap') hg3 hpos hall (by simp) (by rw [List.flatMap_append]; exact holds.append (by simpa using hxL)) (by rw [hlen2]; exact hcap')
        (by
          rw [List.length_append, List.length_append, hol, hzc, hxtl, show l.length * sz2 + sz2 = (l.length + 1) * sz2 by rw [Nat.add_mul, Nat.one_mul], ← Nat.add_mul]
          exact congrArg (· * sz2) (by omega))
        (by simp) (fun v hv => by
          rcases List.mem_append.1 hv with h | h
          · exact ho1 v h
          · exact hxone v h)
      rw [hlen2] at hnew
      have hexec : (execOp a.eval o1).run P w = .ok (.value (.slice (some ⟨w.heap.size, 0, none⟩) (l.length + 1) cap')) w1 := append_exec q1 hrun
      refine ⟨_, _, w1, w.heap.size, l.length * sz2, (a.eval x).cells.toList, x, _, newG w G (.slot d) ((l.length + 1) * sz2), (l.length + 1) * sz2, _, e0, (0, 0), by rw [q7]; rfl, hexec, ?_, hx3 _ _ _ _ _ (by simp) (by have := hroom; rw [hxtl] at this; exact this), hc1, hroom, by rw [newG, upd_self], hg3.rel p.rel.lt p.rel.drop, hg3.good p.rel.lt (by simp), .of_V hnew, hs⟩
      intro a' w' hd' hi'
      have := hx2 w.heap.size 0 (l.length + 1) cap' a' w' rfl hd' hi'
      rw [Nat.zero_add] at this
      exact this
    rcases hVs.cases with hA | ⟨sz3, qd, l3, heq, hO⟩
    · have : l = [] ∧ ∃ ad, a.tmps.getD s undef = .slice ad 0 0 := by
        cases hv : a.tmps.getD s undef <;> rw [hv] at hA <;> cases hA
        exact ⟨rfl, _, rfl⟩
      obtain ⟨rfl, ad, hv⟩ := this
      refine grow ad 0 [] hv (fun w2 _ => ?_) .nil (by simp) (by simp) (by simp)
      cases ad with
      | none => rfl
      | some ad => simp only [Builtin.firstCells, List.length_nil, Nat.zero_mul]; rfl
    · simp only [Val.own.injEq] at heq
      obtain ⟨rfl, rfl⟩ := heq
      obtain ⟨b, off, cap, c, E, fz, vs, h1, h2, h3, h4, h5, h6, h7, h8, h9, h10⟩ := hO
      have hvl : vs.length = (qd :: l3).length * sz2 := by rw [h10.length]; exact flatMap_len h8
      by_cases hfit : (qd :: l3).length + 1 ≤ cap
      · have hspace : off + (qd :: l3).length * sz2 + sz2 ≤ c.size := by
          have : ((qd :: l3).length + 1) * sz2 ≤ cap * sz2 := Nat.mul_le_mul_right _ hfit
          rw [Nat.add_mul, Nat.one_mul] at this
          omega
        obtain ⟨c1, y1, y2, y3, y4, y5, y6⟩ := setCells_at (us := us0) (k := off + (qd :: l3).length * sz2) h3 (by omega)
        have hroom : off + (qd :: l3).length * sz2 + (a.eval x).cells.toList.length ≤ c1.size := by rw [hxtl, y2]; exact hspace
        obtain ⟨c3, x1, x2, x3, x4, x5, x6⟩ := setCells_at (us := (a.eval x).cells.toList) (k := off + (qd :: l3).length * sz2) y1 hroom
        have hstore := run_storeCells_cells (P := P) b (off + (qd :: l3).length * sz2) us0 0 w
          (fun j hj => by
            rw [Nat.add_zero, cell_of_block h3]
            have : off + (qd :: l3).length * sz2 + j < c.size := by omega
            rw [Array.getElem?_eq_getElem this]; rfl)
          (fun j hj => by
            rw [Nat.add_zero, frozen_of_block h3]
            have : off + (qd :: l3).length * sz2 + j < c.size := by omega
            have := h4 _ this
            simp only [Bool.and_eq_false_imp, decide_eq_true_eq, decide_eq_false_iff_not]
            exact fun e1 e2 => this ⟨e1, e2⟩)
          hone0
        rw [Nat.add_zero] at hstore
        have hrun := append_fits (P := P) (ty := o1.type) (n := (qd :: l3).length) (m := 1) (cap := cap) (base := some ⟨b, off, none⟩) (w1 := w.setCells b (off + (qd :: l3).length * sz2) us0) hu hsz hu2 rfl hlen (hread2 w rfl) hfit
          (show (storeCells ((⟨b, off, none⟩ : Addr).add _) us0).run P w = _ by rw [Addr.add_mid]; exact hstore)
        rw [← h1] at hrun
        have hexec := append_exec (a := a) (x := .tmp z) q1 hrun
        obtain ⟨G', r1, r2, r3⟩ := own_fits_rel (d := d) (us := (a.eval x).cells.toList) (l2 := [dx]) (w1 := (w.setCells b (off + (qd :: l3).length * sz2) us0).setCells b (off + (qd :: l3).length * sz2) (a.eval x).cells.toList) p.rel h2 h3 h4 h5 h6 h7 h8 h9 h10 hfit
          (by simpa using hxL) hxone (by simpa using g5) x1 (x2.trans y2) (fun j hj => (x3 j (.inl hj)).trans (y3 j (.inl hj))) x4 (fun b' hb' => (x5 b' hb').trans (y5 b' hb')) (x6.trans y6) (setCells_env.1.trans setCells_env.1) (setCells_env.2.trans setCells_env.2)
        have hG' : ∃ n, G' b = some (.slot d, n) := by
          obtain ⟨b2, off2, cap2, c2, E2, fz2, vs2, k1, k2, k3, k4, k5, k6, k7, _⟩ := r3
          simp only [Value.slice.injEq, Option.some.injEq, Addr.mk.injEq] at k1
          obtain ⟨⟨rfl, _⟩, _⟩ := k1
          exact ⟨_, k7⟩
        obtain ⟨n5, hG'⟩ := hG'
        refine ⟨_, _, _, b, off + (qd :: l3).length * sz2, (a.eval x).cells.toList, x, _, G', n5, c1, E, fz, by rw [q7]; rfl, hexec, ?_, hx3 _ _ _ _ _ (by rw [y2]; exact h4) (by have := hroom; rw [hxtl] at this; exact this), y1, hroom, hG', r1, r2, .of_V r3, hs⟩
        intro a' w' hd' hi'
        exact hx2 b off _ cap a' w' rfl hd' hi'
      · refine grow (some ⟨b, off, none⟩) cap vs h1 (fun w2 hw => ?_) h10 h9.one h8 (by omega)
        simp only [Builtin.firstCells]
        rw [← hvl]
        exact run_loadCells_list (P := P) w2 ⟨b, off, none⟩ vs (fun j v hv => by
          rw [Addr.add_mid, heap_cell hw]; exact (h9 j v hv).1)
  · exact hs.elim

end
end Go.Vm
end

section
/- Code, translated, against the kit's: regions in their order; conditions, blocks, loops. Conditions: none. -/
namespace Go.Vm

section
variable {P : Program} {gl : Nat → List D} {n0 nt : Nat} {a : Act} {w w' w0 : World} {G G' G0 : Gh} {ρ ρ' ρ0 : List Nat} {lam lam' : Nat → Option Nat} {st st' : St} {K : St → Prop} {o : Oper} {Q : Exit → Act → World → Prop}

/-- What a run has come to. -/
def Post (n0 : Nat) (gl : Nat → List D) (nt : Nat) (w : World) (G : Gh) (ρ : List Nat) (K : Ex → St → Prop) : Exit → Act → World → Prop
  | .normal, a', w' => After n0 gl nt w G ρ (K .normal) a' w'
  | .exit i, a', w' => After n0 gl nt w G ρ (K (.exit i)) a' w'
  | .ret, a', w' => After n0 gl nt w G ρ (K .ret) a' w'
  | _, _, _ => False

/-- How far it is from the start. -/
structure Far (w0 : World) (G0 : Gh) (ρ0 : List Nat) (w : World) (G : Gh) (ρ : List Nat) : Prop where
  good : Good w0 G0 w G
  pre : ∀ i b : Nat, ρ0[i]? = some b → ρ[i]? = some b

theorem Far.after (f : Far w0 G0 ρ0 w G ρ) {a' : Act} {w' : World} (h : After n0 gl nt w G ρ K a' w') : After n0 gl nt w0 G0 ρ0 K a' w' := by
  obtain ⟨h2, G', ρ', lam', st', h1, h3, h4, h5, h6⟩ := h
  exact ⟨h2, G', ρ', lam', st', h1, h3, f.good.trans h4, fun i b h => h5 i b (f.pre i b h), h6⟩

theorem Far.post (f : Far w0 G0 ρ0 w G ρ) {K : Ex → St → Prop} {e : Exit} {a' : Act} {w' : World} (h : Post n0 gl nt w G ρ K e a' w') : Post n0 gl nt w0 G0 ρ0 K e a' w' := by
  cases e <;> first | exact f.after h | exact h.elim

theorem Pre.far (p : Pre n0 gl nt w G ρ lam a st) : Far w G ρ w G ρ := ⟨Good.refl p.rel.lt, fun _ _ h => h⟩

/-- It stands where it stands. -/
theorem Pre.after (p : Pre n0 gl nt w G ρ lam a st) (h : K st) : After n0 gl nt w G ρ K a w :=
  ⟨p.sz, G, ρ, lam, st, p.df, p.rel, Good.refl p.rel.lt, fun _ _ h => h, h⟩

/-- Whether a guarded operation is wanted. -/
theorem guard_spec {ops : Array Oper} {g : Option (Nat × Bool)} (hg : compGuard ops o = some g) (hT : ∀ t, RelT w G ρ lam (.slot t) (a.tmps.getD t undef) (st.tm t)) :
    (g = none ∧ Region.wanted o (yielded ops a.tmps) = true) ∨
    ∃ s want, g = some (s, want) ∧ ((∃ b, st.tm s = .d (.bool b) ∧ Region.wanted o (yielded ops a.tmps) = (cond want b (!b))) ∨
      (st.tm s = .tuple [] ∧ Region.wanted o (yielded ops a.tmps) = false) ∨ ((∀ b, st.tm s ≠ .d (.bool b)) ∧ st.tm s ≠ .tuple [])) := by
  unfold compGuard at hg
  split at hg
  · rename_i hn
    simp only [Option.some.injEq] at hg
    exact .inl ⟨hg.symm, by simp [Region.wanted, hn]⟩
  · rename_i j want hn
    split at hg
    · rename_i s hs
      simp only [Option.some.injEq] at hg
      refine .inr ⟨s, want, hg.symm, ?_⟩
      have hw : Region.wanted o (yielded ops a.tmps) = (yielded ops a.tmps j == some want) := by simp [Region.wanted, hn]
      have hy : yielded ops a.tmps j = match a.tmps[s]? with | some (.bool b) => some b | _ => none := by
        simp only [yielded, hs, Option.bind_some]; rfl
      have hr := hT s
      rw [hw, hy]
      by_cases h1 : ∃ b, st.tm s = .d (.bool b)
      · obtain ⟨b, hb⟩ := h1
        refine .inl ⟨b, hb, ?_⟩
        rw [hb] at hr
        have hv := hr.bool
        rw [Array.getD_eq_getD_getElem?] at hv
        cases hx : a.tmps[s]? with
        | none => rw [hx] at hv; simp [undef] at hv
        | some v =>
          rw [hx] at hv
          simp only [Option.getD_some] at hv
          subst hv
          cases b <;> cases want <;> rfl
      · by_cases h2 : st.tm s = .tuple []
        · refine .inr (.inl ⟨h2, ?_⟩)
          rw [h2] at hr
          have hr : RelA w G ρ (a.tmps.getD s undef) (.tuple []) := hr
          rw [Array.getD_eq_getD_getElem?] at hr
          cases hx : a.tmps[s]? with
          | none => rfl
          | some v =>
            rw [hx] at hr
            simp only [Option.getD_some] at hr
            cases hr
            rfl
        · exact .inr (.inr ⟨fun b hb => h1 ⟨b, hb⟩, h2⟩)
    · simp at hg

/-- What is not wanted leaves nothing. -/
theorem skip_after {d : Option Nat} (p : Pre n0 gl nt w G ρ lam a st) (hod : o.dst = d) (hdt : dstOk nt o = true) (hK : K (st.setO d (.tuple []))) : After n0 gl nt w G ρ K (a.put o.dst undef) w :=
  after_setO p.rel p.df p.sz (fun t ht => by unfold dstOk at hdt; rw [hod, ht] at hdt; simpa [Nat.blt_eq] using hdt) (Good.refl p.rel.lt) (fun _ _ h => h) hod
    (fun _ _ => .of_A (.tuple [] [] .nil)) hK

/-- An operation's instruction: translated, or one that is never run. -/
def InsOf (P : Program) (an : Ann) (m : AMap) (o : Oper) (ins : I) : Prop := compOp P an m o = some ins ∨ ins = .bad o.dst

theorem sim_stepI {an : Ann} {m : AMap} {i : I} (p : Pre n0 gl nt w G ρ lam a st) (h : InsOf P an m o i) (hd : dstOk nt o = true)
    (hs : step (AP P gl) gl i st K) : o.wp P a w (After n0 gl nt w G ρ K) Q := by
  rcases h with h | rfl
  · exact sim_step p h hd hs
  · exact hs.elim

/-- One operation with its guard. -/
theorem sim_gop {ops : Array Oper} {i : Nat} {an : Ann} {m : AMap} {ins : I} {g : Option (Nat × Bool)} (p : Pre n0 gl nt w G ρ lam a st) (ho : ops[i]? = some o) (h : InsOf P an m o ins)
    (hg : compGuard ops o = some g) (hd : dstOk nt o = true) (hdst : ins.dst = o.dst) (hs : steps (AP P gl) gl [⟨g, ins⟩] st K) : wpOp P ops Q i (After n0 gl nt w G ρ K) a w := by
  unfold wpOp
  rw [ho]
  simp only
  rcases guard_spec hg p.rel.tm with ⟨rfl, hw⟩ | ⟨s, want, rfl, ⟨b, hb, hw⟩ | ⟨hb, hw⟩ | ⟨h1, h2⟩⟩
  · rw [hw]; simp only [if_true]
    exact .inl (sim_stepI p h hd hs)
  · rw [hw]
    simp only [steps, hb] at hs
    cases hc : cond want b (!b) with
    | true => rw [hc] at hs; simp only [if_true]; exact .inl (sim_stepI p h hd hs)
    | false => rw [hc] at hs; simp only [Bool.false_eq_true, if_false]; exact skip_after p hdst.symm hd hs
  · rw [hw]
    simp only [steps, hb] at hs
    simp only [Bool.false_eq_true, if_false]
    exact skip_after p hdst.symm hd hs
  · exfalso
    simp only [steps] at hs
    first
      | exact hs
      | (split at hs
         · rename_i b hb; exact h1 b hb
         · rename_i hb; exact h2 hb
         · exact hs)

theorem compOne_spec {an : Ann} {all : Array Oper} {m : AMap} {g : GI} (h : compOne P an nt all m o = some g) : InsOf P an m o g.i ∧ compGuard all o = some g.g ∧ dstOk nt o = true ∧ g.i.dst = o.dst := by
  unfold compOne at h
  split at h
  · rename_i i g0 h1 h2
    split at h
    · rename_i hd
      simp only [Bool.and_eq_true, decide_eq_true_eq] at hd
      simp only [Option.some.injEq] at h
      subst h
      refine ⟨?_, h2, hd.1, hd.2⟩
      split at h1
      · rename_i i' hi
        simp only [Option.some.injEq] at h1; subst h1
        exact .inl hi
      · simp only [Option.some.injEq] at h1
        exact .inr h1.symm
    · simp at h
  · simp at h

theorem compOps_cons {an : Ann} {all : Array Oper} {m : AMap} {l : List Oper} {is : List GI} (h : compOps P an nt all m (o :: l) = some is) :
    (∃ g is', compOne P an nt all m o = some g ∧ compOps P an nt all (amapOf P m o) l = some is' ∧ is = g :: is') ∨
    (∃ o2 o3 l' d i e is', l = o2 :: o3 :: l' ∧ isApx P an o o2 o3 = some (d, i, e) ∧ d < nt ∧ e < nt ∧ compOps P an nt all m l' = some is' ∧ is = ⟨none, i⟩ :: ⟨none, .nop (some e)⟩ :: ⟨none, .nop none⟩ :: is') := by
  have plain : ∀ {l : List Oper}, (match compOne P an nt all m o, compOps P an nt all (amapOf P m o) l with | some g, some is => some (g :: is) | _, _ => none) = some is →
      ∃ g is', compOne P an nt all m o = some g ∧ compOps P an nt all (amapOf P m o) l = some is' ∧ is = g :: is' := by
    intro l h
    split at h
    · rename_i g is' h1 h2
      simp only [Option.some.injEq] at h
      exact ⟨g, is', h1, h2, h.symm⟩
    · simp at h
  cases l with
  | nil =>
    rw [compOps] at h
    · exact .inl (plain h)
    · intro a b c hh; exact absurd hh.symm (List.cons_ne_nil _ _)
  | cons o2 l => cases l with
    | nil =>
    rw [compOps] at h
    · exact .inl (plain h)
    · intro a b c hh; exact absurd (congrArg List.tail hh).symm (List.cons_ne_nil _ _)
    | cons o3 l =>
      rw [compOps] at h
      split at h
      · rename_i d i e hx
        split at h
        · rename_i hb
          simp only [Bool.and_eq_true, Nat.blt_eq] at hb
          split at h
          · rename_i is' h2
            simp only [Option.some.injEq] at h
            exact .inr ⟨o2, o3, l, d, i, e, is', rfl, hx, hb.1, hb.2, h2, h.symm⟩
          · simp at h
        · simp at h
      · exact .inl (plain h)

theorem steps_cons {R : Type} (A : Alg R) (gl : Nat → List D) (g : GI) (l : List GI) (st : St) (K : St → R) : steps A gl (g :: l) st K = steps A gl [g] st fun st => steps A gl l st K := by
  obtain ⟨g, i⟩ := g
  cases g with
  | none => rfl
  | some q => obtain ⟨s, want⟩ := q; simp only [steps]

theorem wpOp_run {ops : Array Oper} {i : Nat} {v : Value} {w1 : World} {M : Act → World → Prop} (ho : ops[i]? = some o) (hg : o.guard = none) (hr : (execOp a.eval o).run P w = .ok (.value v) w1) (h : M (a.put o.dst v) w1) : wpOp P ops Q i M a w := by
  unfold wpOp
  rw [ho]
  have : Region.wanted o (yielded ops a.tmps) = true := by simp [Region.wanted, hg]
  simp only [this, if_true]
  exact .inl (wp_value hr h)

theorem wpOp_skip {ops : Array Oper} {i : Nat} {w1 : World} {M : Act → World → Prop} (ho : ops[i]? = some o) (hg : o.guard = none) (hr : (execOp a.eval o).run P w = .ok .skip w1) (h : M (a.put o.dst undef) w1) : wpOp P ops Q i M a w := by
  unfold wpOp
  rw [ho]
  have : Region.wanted o (yielded ops a.tmps) = true := by simp [Region.wanted, hg]
  simp only [this, if_true]
  exact .inl (wp_skip' hr h)

theorem put_get {d t : Nat} {v : Value} (hd : d < a.tmps.size) : (a.put (some d) v).tmps.getD t undef = if t = d then v else a.tmps.getD t undef := by
  simp only [Act.put]
  by_cases h : t = d
  · subst h; simp [hd]
  · rw [if_neg h, Array.getD_eq_getD_getElem?, Array.getD_eq_getD_getElem?, Array.getElem?_setIfInBounds_ne (Ne.symm h)]

/-- Behind the three: the frame. -/
theorem apx_frame {d e s : Nat} {v1 v2 : Value} {x2 : Val} {w3 : World} {G' : Gh} (hr : RelS gl w3 G' ρ lam a.tmps (st.set s .undef)) (hv : RelT w3 G' ρ lam (.slot d) v1 x2) (hd : d < a.tmps.size) (he : e < a.tmps.size) :
    RelS gl w3 G' ρ lam ((a.tmps.setIfInBounds d v1).setIfInBounds e v2) ((((st.set s .undef).set d x2).setO (some e) .undef).setO none .undef) := by
  have h1 := hr.set hd hv
  exact h1.set (by simpa using he) (.of_A (.undef _))

theorem eval_put {x : Operand} {d : Nat} {v : Value} (h : ∀ q, x = .tmp q → q ≠ d) : (a.put (some d) v).eval x = a.eval x := by
  cases x with
  | tmp q =>
    have := h q rfl
    show (a.put (some d) v).tmps.getD q undef = a.tmps.getD q undef
    simp only [Act.put]
    rw [Array.getD_eq_getD_getElem?, Array.getD_eq_getD_getElem?, Array.getElem?_setIfInBounds_ne (Ne.symm this)]
  | _ => rfl

theorem apx_opd {o1 o2 o3 : Oper} {d s z i e sz bnd : Nat} {y : O} (hx : IsApx P o1 o2 o3 d s z i e sz bnd y) {xo : Operand} (h : o3.op.operands.toList = [.tmp e, xo]) : (∀ q, xo = .tmp q → q ≠ e ∧ q ≠ d) ∧ d ≠ i ∧ e ≠ d ∧ e ≠ i := by
  obtain ⟨t, u, e0, bt, zz, x, t3, q1, q2, q3, q4, q5, q6, q7, q8, q9, hu, hu2, hsz, hbt, hzz, hy, hpos, hb0, hbnd, n1, n2, n3, n4⟩ := hx.ex
  refine ⟨?_, n1, n2, n3⟩
  intro q hq
  subst hq
  rw [q7] at h
  have : x = .tmp q := by simpa [Op.operands] using h
  subst this
  simp only [opd, Option.some.injEq] at hy
  exact n4 q hy.symm

/-- Operations one behind another, as the text has them. -/
theorem sim_ops {ops : Array Oper} {an : Ann} : ∀ (fuel : Nat) {l : List Oper} {k : Nat} {m : AMap} {is : List GI} {w : World} {G : Gh} {ρ : List Nat} {lam : Nat → Option Nat} {a : Act} {st : St}, l.length ≤ fuel →
    (∀ j, ops[k + j]? = l[j]?) → compOps P an nt ops m l = some is → Pre n0 gl nt w G ρ lam a st → Far w0 G0 ρ0 w G ρ → steps (AP P gl) gl is st K →
    (∀ a' w', After n0 gl nt w0 G0 ρ0 K a' w' → Q .normal a' w') → wpOps P ops Q (List.range' k l.length) a w
  | _, [], k, m, is, w, G, ρ, lam, a, st, _, _, hc, p, f, hs, hQ => by
    simp only [compOps, Option.some.injEq] at hc
    subst hc
    exact hQ _ _ (f.after (p.after hs))
  | 0, o :: l, k, m, is, w, G, ρ, lam, a, st, hfu, _, _, _, _, _, _ => by simp at hfu
  | fuel + 1, o :: l, k, m, is, w, G, ρ, lam, a, st, hfu, hl, hc, p, f, hs, hQ => by
    have ho : ops[k]? = some o := by have := hl 0; simpa using this
    rcases compOps_cons hc with ⟨g, is', h1, h3, rfl⟩ | ⟨o2, o3, l', d, ins, e, is', rfl, hx, hd, he, h3, rfl⟩
    · obtain ⟨c1, c2, c3, c4⟩ := compOne_spec h1
      rw [steps_cons] at hs
      rw [List.length_cons, List.range'_succ, wpOps_cons]
      refine wpOp_mono ?_ (sim_gop p ho c1 c2 c3 c4 hs)
      rintro a' w' ⟨e2, G', ρ', lam', st', e1, e3, e4, e5, e6⟩
      refine sim_ops fuel (l := l) (k := k + 1) (m := amapOf P m o) (by simp at hfu; omega) (fun j => ?_) h3 ⟨e3, e1, e2⟩ ⟨f.good.trans e4, fun i b h => e5 i b (f.pre i b h)⟩ e6 hQ
      have := hl (j + 1)
      rw [show k + 1 + j = k + (j + 1) by omega, this]; rfl
    · obtain ⟨s, z, i, y, sz, bnd, rfl, hxs⟩ := isApx_spec hx
      have ho2 : ops[k + 1]? = some o2 := by have := hl 1; simpa using this
      have ho3 : ops[k + 2]? = some o3 := by have := hl 2; simpa using this
      have hs' : step (AP P gl) gl (.apx d s z i y sz bnd) st fun st1 => steps (AP P gl) gl is' ((st1.setO (some e) .undef).setO none .undef) K := hs
      obtain ⟨v1, v2, w1, b, pos, us, xo, x2, G', n, c1, E, fz, r0, r1, r2, r3, r4, r5, r6, r7, r8, r9, r10⟩ := apx_runs p hxs hs'
      obtain ⟨n4, n1, n2, n3⟩ := apx_opd hxs r0
      obtain ⟨t, u, e0, bt, zz, x, t3, q1, q2, q3, q4, q5, q6, q7, q8, q9, _⟩ := hxs.ex
      have hda : d < a.tmps.size := Nat.lt_of_lt_of_le hd p.sz
      have hea : e < a.tmps.size := Nat.lt_of_lt_of_le he p.sz
      rw [List.length_cons, List.length_cons, List.length_cons, List.range'_succ, List.range'_succ, List.range'_succ, wpOps_cons]
      refine wpOp_run ho q3 r1 ?_
      rw [q2, wpOps_cons]
      refine wpOp_run ho2 q6 (r2 _ _ ?_ ?_) ?_
      · rw [put_get hda, if_pos rfl]
      · rw [put_get hda, if_neg (Ne.symm n1)]
      rw [q5, wpOps_cons]
      refine wpOp_skip ho3 q9 (r3 _ _ ?_ ?_ r4) ?_
      · rw [put_get (by rw [put_size]; exact hea), if_pos rfl]
      · rw [eval_put (fun q hq => (n4 q hq).1), eval_put (fun q hq => (n4 q hq).2)]
      rw [q8]
      have hrel := apx_frame (v2 := v2) r7 r9 hda hea
      refine sim_ops fuel (l := l') (k := k + 1 + 1 + 1) (m := m) (by simp at hfu; omega) (fun j => ?_) h3 ⟨hrel, p.df.good r8, by simpa [Act.put] using p.sz⟩ ⟨f.good.trans r8, f.pre⟩ r10 hQ
      have := hl (j + 3)
      rw [show k + 1 + 1 + 1 + j = k + (j + 3) by omega, this]; rfl

/-- What the machine's code comes to, one exit behind another. -/
theorem run_seq_post {K : Ex → St → Prop} {b : VC} {y : Code} (hy : ∀ {w : World} {G : Gh} {ρ : List Nat} {lam : Nat → Option Nat} {a : Act} {st : St}, Pre n0 gl nt w G ρ lam a st → Far w0 G0 ρ0 w G ρ →
      run (AP P gl) gl b st K → y.wp P (Post n0 gl nt w0 G0 ρ0 K) a w) {e : Exit} {a' : Act} {w' : World}
    (h : Post n0 gl nt w0 G0 ρ0 (fun x st => match x with | .normal => run (AP P gl) gl b st K | x => K x st) e a' w') : Exit.then (y.wp P (Post n0 gl nt w0 G0 ρ0 K)) (Post n0 gl nt w0 G0 ρ0 K) e a' w' := by
  cases e with
  | normal =>
    obtain ⟨e2, G', ρ', lam', st', e1, e3, e4, e5, e6⟩ := h
    exact hy ⟨e3, e1, e2⟩ ⟨e4, e5⟩ e6
  | exit i => exact h
  | ret => exact h
  | _ => exact h.elim

end
end Go.Vm
end

section
/- Code and functions, translated, against the kit's. Conditions: none. -/
namespace Go.Vm

section
variable {P : Program} {gl : Nat → List D} {n0 nt : Nat} {a : Act} {w w' w0 : World} {G G' G0 : Gh} {ρ ρ' ρ0 : List Nat} {lam lam' : Nat → Option Nat} {st st' : St} {K : St → Prop} {o : Oper} {Q : Exit → Act → World → Prop}

/-- What is to be shown of a region that draws its order. -/
def AnyLaw (P : Program) (gl : Nat → List D) : Prop :=
  ∀ {n0 nt : Nat} {an : Ann} {m : AMap} {id : Nat} {ops : Array Oper} {is : List GI} {cf : List (List Nat)} {w : World} {G : Gh} {ρ : List Nat} {lam : Nat → Option Nat} {a : Act} {st : St} {K : Ex → St → Prop},
    compOps P an nt ops m ops.toList = some is → anyCf P ops is = some cf → Pre n0 gl nt w G ρ lam a st → runAny (AP P gl) gl is cf st (K .normal) → (Code.region id ops true).wp P (Post n0 gl nt w G ρ K) a w

/-- What is to be shown of a range over a function. -/
def RangeLaw (P : Program) (gl : Nat → List D) : Prop :=
  ∀ {n0 nt : Nat} {an : Ann} {m : AMap} {f : Operand} {ps : Array Tmp} {x y : Code} {l l' : List (List Nat × List Nat)} {vc : VC} {w : World} {G : Gh} {ρ : List Nat} {lam : Nat → Option Nat} {a : Act} {st : St} {K : Ex → St → Prop},
    compC P an nt m (.rangeFunc f ps x y) l = some (vc, l') → Pre n0 gl nt w G ρ lam a st → n0 ≤ w.heap.size → run (AP P gl) gl vc st K → (Code.rangeFunc f ps x y).wp P (Post n0 gl nt w G ρ K) a w

theorem run_loop_post {K : Ex → St → Prop} {ts bs : List Nat} {I : Nat → St → Prop} {n : Nat} {st1 : St} {ρ1 : List Nat} (hlen : st1.s.length = ρ1.length) (f1 : ∀ i b : Nat, ρ0[i]? = some b → ρ1[i]? = some b) {e : Exit} {a' : Act} {w' w1 : World} {G1 : Gh}
    (hg1 : Good w0 G0 w1 G1)
    (h : Post n0 gl nt w1 G1 ρ1 (fun x st => match x with | .normal => Vm.forget (AP P gl) st1.s.length ts bs st (fun st' => ∃ m, m < n ∧ I m st') | x => K x st) e a' w') :
    Exit.then (fun a' w' => ∃ m, m < n ∧ ∃ G ρ lam st, Pre n0 gl nt w' G ρ lam a' st ∧ Far w0 G0 ρ0 w' G ρ ∧ I m st) (Post n0 gl nt w0 G0 ρ0 K) e a' w' := by
  have f : Far w0 G0 ρ0 w1 G1 ρ1 := ⟨hg1, f1⟩
  cases e with
  | normal =>
    obtain ⟨e2, G', ρ', lam', st', e1, e3, e4, e5, hk, m, hm, hI⟩ := h
    have p : Pre n0 gl nt w' G' ρ' lam' a' st' := ⟨e3, e1, e2⟩
    obtain ⟨ρ2, lam2, p2, hρ⟩ := p.forget (n := st1.s.length) hk
    refine ⟨m, hm, G', ρ2, lam2, _, p2, ⟨hg1.trans e4, ?_⟩, hI⟩
    intro i b hi
    have h1 := f1 i b hi
    have h2 := e5 i b h1
    rcases hρ with rfl | rfl
    · exact h2
    · refine take_get ?_ h2
      rw [hlen]
      rcases Nat.lt_or_ge i ρ1.length with h | h
      · exact h
      · rw [List.getElem?_eq_none h] at h1; simp at h1
  | exit i => exact f.after h
  | ret => exact f.after h
  | _ => exact h.elim

theorem sim_code (hany : AnyLaw P gl) (hrf : RangeLaw P gl) {an : Ann} {m : AMap} : ∀ (c : Code) {l l' : List (List Nat × List Nat)} {vc : VC} {w0 w : World} {G0 G : Gh} {ρ0 ρ : List Nat} {lam : Nat → Option Nat} {a : Act} {st : St} {K : Ex → St → Prop},
    compC P an nt m c l = some (vc, l') → Pre n0 gl nt w G ρ lam a st → Far w0 G0 ρ0 w G ρ → n0 ≤ w0.heap.size → run (AP P gl) gl vc st K → c.wp P (Post n0 gl nt w0 G0 ρ0 K) a w := by
  intro c
  induction c with
  | skip =>
    intro l l' vc w0 w G0 G ρ0 ρ lam a st K hc p f hn hr
    simp only [compC, Option.some.injEq, Prod.mk.injEq] at hc
    obtain ⟨rfl, rfl⟩ := hc
    exact wp_skip (f.after (p.after hr))
  | region id ops dr =>
    intro l l' vc w0 w G0 G ρ0 ρ lam a st K hc p f hn hr
    simp only [compC] at hc
    split at hc
    · rename_i is his
      cases dr with
      | true =>
        simp only [if_true] at hc
        split at hc
        · rename_i cf hok
          simp only [Option.some.injEq, Prod.mk.injEq] at hc
          obtain ⟨rfl, rfl⟩ := hc
          exact wp_mono (hany his hok p hr) fun e a w h => f.post h
        · simp only [Option.some.injEq, Prod.mk.injEq] at hc
          obtain ⟨rfl, rfl⟩ := hc
          exact hr.elim
      | false =>
        simp only [Bool.false_eq_true, if_false, Option.some.injEq, Prod.mk.injEq] at hc
        obtain ⟨rfl, rfl⟩ := hc
        refine wp_region ?_
        have : List.range ops.size = List.range' 0 ops.toList.length := by rw [List.range_eq_range', Array.length_toList]
        rw [this]
        exact sim_ops _ (Nat.le_refl _) (fun j => by simp) his p f hr fun a' w' h => h
    · simp at hc
  | seq x y ihx ihy =>
    intro l l' vc w0 w G0 G ρ0 ρ lam a st K hc p f hn hr
    simp only [compC] at hc
    split at hc
    · rename_i vx l1 hx
      split at hc
      · rename_i vy l2 hy
        simp only [Option.some.injEq, Prod.mk.injEq] at hc
        obtain ⟨rfl, rfl⟩ := hc
        refine wp_seq (wp_mono (ihx hx p f hn hr) fun e a w h => ?_)
        exact run_seq_post (fun p f hr => ihy hy p f hn hr) h
      · simp at hc
    · simp at hc
  | cond c x y ihx ihy =>
    intro l l' vc w0 w G0 G ρ0 ρ lam a st K hc p f hn hr
    simp only [compC] at hc
    split at hc
    · rename_i vx co l1 ho hx
      split at hc
      · rename_i vy l2 hy
        simp only [Option.some.injEq, Prod.mk.injEq] at hc
        obtain ⟨rfl, rfl⟩ := hc
        simp only [run] at hr
        obtain ⟨L, hT⟩ := ev_any ho p.rel
        split at hr
        · rename_i t ht
          rw [ht] at hT
          cases t with
          | true => exact wp_cond_true hT.bool (ihx hx p f hn hr)
          | false => exact wp_cond_false hT.bool (ihy hy p f hn hr)
        · exact hr.elim
      · simp at hc
    · simp at hc
  | block i b ih =>
    intro l l' vc w0 w G0 G ρ0 ρ lam a st K hc p f hn hr
    simp only [compC] at hc
    split at hc
    · rename_i vb l1 hb
      simp only [Option.some.injEq, Prod.mk.injEq] at hc
      obtain ⟨rfl, rfl⟩ := hc
      refine wp_block (wp_mono (ih hb p f hn hr) fun e a w h => ?_)
      cases e with
      | normal => exact h
      | ret => exact h
      | exit j =>
        obtain ⟨e2, G', ρ', lam', st', e1, e3, e4, e5, e6⟩ := h
        simp only at e6
        simp only [Exit.inBlock]
        by_cases hj : j = i
        · subst hj
          simp only [Nat.beq_refl, cond] at e6
          simp only [if_true]
          exact ⟨e2, G', ρ', lam', st', e1, e3, e4, e5, e6⟩
        · have : Nat.beq j i = false := by rw [Bool.eq_false_iff]; intro h'; exact hj (Nat.eq_of_beq_eq_true h')
          simp only [this, cond] at e6
          simp only [hj, if_false]
          exact ⟨e2, G', ρ', lam', st', e1, e3, e4, e5, e6⟩
      | _ => exact h.elim
    · simp at hc
  | loop b ih =>
    intro l l' vc w0 w G0 G ρ0 ρ lam a st K hc p f hn hr
    cases l with
    | nil => simp [compC] at hc
    | cons q l =>
      obtain ⟨ts, bs⟩ := q
      simp only [compC] at hc
      split at hc
      · rename_i vb l1 hb
        simp only [Option.some.injEq, Prod.mk.injEq] at hc
        obtain ⟨rfl, rfl⟩ := hc
        simp only [run] at hr
        obtain ⟨hk, I, n, h0, hround⟩ := hr
        obtain ⟨ρ2, lam2, p2, hρ⟩ := p.forget (n := st.s.length) hk
        have hρ2 : ρ2 = ρ := by
          rcases hρ with rfl | rfl
          · rfl
          · rw [List.take_of_length_le]; rw [p.rel.ob.1]; exact Nat.le_refl _
        subst hρ2
        refine wp_loop_ghost (fun n a w => ∃ G ρ lam st, Pre n0 gl nt w G ρ lam a st ∧ Far w0 G0 ρ0 w G ρ ∧ I n st) n ⟨G, ρ2, lam2, _, p2, f, h0⟩ ?_
        rintro n1 a1 w1 ⟨G1, ρ1, lam1, st1, p1, f1, hI⟩
        refine wp_mono (ih hb p1 p1.far (Nat.le_trans hn f1.good.size) (hround n1 st1 hI)) fun e a' w' h => ?_
        exact run_loop_post p1.rel.ob.1.symm f1.pre f1.good h
      · simp at hc
  | exit i =>
    intro l l' vc w0 w G0 G ρ0 ρ lam a st K hc p f hn hr
    simp only [compC, Option.some.injEq, Prod.mk.injEq] at hc
    obtain ⟨rfl, rfl⟩ := hc
    exact wp_exit (f.after (p.after hr))
  | ret =>
    intro l l' vc w0 w G0 G ρ0 ρ lam a st K hc p f hn hr
    simp only [compC, Option.some.injEq, Prod.mk.injEq] at hc
    obtain ⟨rfl, rfl⟩ := hc
    exact wp_ret (f.after (p.after hr))
  | rangeFunc g ps x y _ _ =>
    intro l l' vc w0 w G0 G ρ0 ρ lam a st K hc p f hn hr
    exact wp_mono (hrf hc p (Nat.le_trans hn f.good.size) hr) fun e a w h => f.post h
  | scope _ => intro l l' vc w0 w G0 G ρ0 ρ lam a st K hc; simp [compC] at hc
  | label _ => intro l l' vc w0 w G0 G ρ0 ρ lam a st K hc; simp [compC] at hc
  | goto _ => intro l l' vc w0 w G0 G ρ0 ρ lam a st K hc; simp [compC] at hc
  | refuse _ =>
    intro l l' vc w0 w G0 G ρ0 ρ lam a st K hc p f hn hr
    simp only [compC, Option.some.injEq, Prod.mk.injEq] at hc
    obtain ⟨rfl, rfl⟩ := hc
    exact hr.elim

end
end Go.Vm
end

section
/- Marks of ranges over functions; blocks that hold no cells and have no owner. Conditions: none. -/
namespace Go.Vm

section
variable {P : Program} {gl : Nat → List D} {n0 nt : Nat} {a : Act} {w w' w0 : World} {G G' G0 : Gh} {ρ ρ' ρ0 : List Nat} {lam lam' : Nat → Option Nat} {st st' : St} {K : St → Prop}

/-- Does an object hold no cells? -/
def noCells : Obj → Bool
  | .cells .. | .map .. => false
  | _ => true

theorem put_keeps {b : Nat} {o o' : Obj} (h : w.heap[b]? = some o) (ho : noCells o = true) : Keeps w G (w.putObj b o') G := by
  refine ⟨?_, ?_, ?_⟩
  rotate_left
  · intro b' ks vs hc
    obtain ⟨h1, mes, clock, h2, h3⟩ := hc
    have hne : b' ≠ b := by
      intro e
      subst e
      rw [h] at h2
      simp only [Option.some.injEq] at h2
      subst h2
      simp [noCells] at ho
    exact ⟨h1, mes, clock, (World.putObj_heap_other hne).trans h2, h3⟩
  · intro b' n hc
    obtain ⟨c, E, fz, h2, h3⟩ := hc
    have hne : b' ≠ b := by
      intro e
      subst e
      rw [h] at h2
      simp only [Option.some.injEq] at h2
      subst h2
      simp [noCells] at ho
    exact ⟨c, E, fz, (World.putObj_heap_other hne).trans h2, h3⟩
  intro b' off v hc
  refine ⟨?_, hc.2⟩
  have hne : b' ≠ b := by
    intro e
    subst e
    have := hc.1
    unfold World.cell? at this
    simp only [h] at this
    cases o <;> simp [noCells] at ho <;> simp at this
  rw [World.cell?_of_block (World.putObj_heap_other hne)]
  exact hc.1

theorem put_same {b : Nat} {o' : Obj} (hG : G b = none) (L : Loc) : SameL L L w G (w.putObj b o') G := by
  intro b' n hb
  have hne : b' ≠ b := by intro e; subst e; rw [hG] at hb; simp at hb
  exact ⟨World.putObj_heap_other hne, hb⟩

theorem RelS.putObj {b : Nat} {o o' : Obj} {tmps : Array Value} (p : RelS gl w G ρ lam tmps st) (h : w.heap[b]? = some o) (ho : noCells o = true) (hG : G b = none) : RelS gl (w.putObj b o') G ρ lam tmps st where
  tm t := (p.tm t).tr (put_keeps h ho) (fun _ _ h => h) (fun _ _ h => h) (put_same hG _)
  bx t cs hb := by
    obtain ⟨b', h1, h2⟩ := p.bx t cs hb
    exact ⟨b', h1, RelBox.tr (put_keeps h ho) (fun _ _ h => h) (put_same hG _) (fun _ => put_same hG _) h2⟩
  nb := p.nb
  ob := p.ob.tr (put_keeps h ho) (fun _ => put_same hG _) (fun _ _ => put_same hG _)
  gb := p.gb.tr (put_keeps h ho)
  lt b' L n hb := by rw [World.putObj_size]; exact p.lt b' L n hb

theorem Good.putObj {b : Nat} {o o' : Obj} (g : Good w0 G0 w G) (h : w.heap[b]? = some o) (ho : noCells o = true) (hb : w0.heap.size ≤ b) : Good w0 G0 (w.putObj b o') G where
  size := by rw [World.putObj_size]; exact g.size
  imm b' hb' hG := by
    obtain ⟨h1, h2⟩ := g.imm b' hb' hG
    exact ⟨(World.putObj_heap_other (by omega)).trans h1, h2⟩
  new := g.new
  old := g.old
  keep := g.keep.trans (put_keeps h ho)
  os := g.os
  out := g.out

theorem Marks.tail {D : Nat} {Ds : List Nat} (h : Marks n0 w G ((D :: Ds).map mark)) : D ∉ Ds ∧ n0 ≤ D ∧ w.heap[D]? = some (.deferred (some [])) ∧ G D = none ∧ Marks n0 w G (Ds.map mark) := by
  obtain ⟨Es, h1, h2, h3⟩ := h
  have hE : Es = D :: Ds := by
    have inj : ∀ (l l' : List Nat), l.map mark = l'.map mark → l = l' := by
      intro l
      induction l with
      | nil => intro l' h; cases l' with | nil => rfl | cons _ _ => simp at h
      | cons x l ih =>
        intro l' h
        cases l' with
        | nil => simp at h
        | cons y l' =>
          simp only [List.map_cons, List.cons.injEq, mark, Deferred.mk.injEq, Target.collected.injEq, and_true] at h
          rw [h.1, ih l' (by simpa [mark] using h.2)]
    exact (inj _ _ h1).symm
  subst hE
  obtain ⟨e1, e2, e3⟩ := h3 D (by simp)
  exact ⟨(List.nodup_cons.1 h2).1, e1, e2, e3, Ds, rfl, (List.nodup_cons.1 h2).2, fun x hx => h3 x (by simp [hx])⟩

/-- A function that leaves with marks. -/
theorem leaves_marks {fn : Func} {tmps : Array Value} {R : Ending → World → Prop} : ∀ (Ds : List Nat) {w : World}, RelS gl w G ρ lam tmps st → Good w0 G0 w G → Marks w0.heap.size w G (Ds.map mark) →
    (∀ w, RelS gl w G ρ lam tmps st → Good w0 G0 w G → ∃ v, (results fn tmps).run P w = .ok v w ∧ R (.returned v) w) → LeavesInM Fence.wide 0 P fn tmps R (Ds.map mark) .returning w
  | [], w, p, g, _, h => h w p g
  | D :: Ds, w, p, g, hm, h => by
    obtain ⟨h1, h2, h3, h4, h5⟩ := hm.tail
    refine ⟨by simp, .inl ⟨D, w.putObj D (.deferred none), rfl, run_takeDeferred h3, ?_⟩⟩
    refine leaves_marks Ds (p.putObj h3 rfl h4) (g.putObj h3 rfl h2) ?_ h
    obtain ⟨Es, e1, e2, e3⟩ := h5
    refine ⟨Es, e1, e2, fun E hE => ?_⟩
    obtain ⟨f1, f2, f3⟩ := e3 E hE
    have hne : E ≠ D := by
      intro e
      subst e
      have hEs : mark E ∈ Ds.map mark := by rw [e1]; exact List.mem_map_of_mem hE
      obtain ⟨x, hx, he⟩ := List.mem_map.1 hEs
      simp only [mark, Deferred.mk.injEq, Target.collected.injEq, and_true] at he
      exact h1 (he ▸ hx)
    exact ⟨f1, (World.putObj_heap_other hne).trans f2, f3⟩

end
end Go.Vm
end

section
/- Functions, translated, against the kit's calls. Conditions: none. -/
namespace Go.Vm

section
variable {P : Program} {gl : Nat → List D} {n0 nt : Nat} {a : Act} {w w' w0 : World} {G G' G0 : Gh} {ρ ρ' ρ0 : List Nat} {lam lam' : Nat → Option Nat} {st st' : St} {K : St → Prop} {o : Oper} {Q : Exit → Act → World → Prop}

theorem init_rel : ∀ {args : List Val} {vs : List Value} {n : Nat} {t : Nat}, RelL w G ρ vs args → (hn : n ≤ t) → RelA w G ρ ((vs[t - n]?).getD undef) (initT args n t)
  | [], vs, n, t, h, _ => by
    cases h
    simp only [List.getElem?_nil, Option.getD_none, initT]
    exact .tuple [] [] .nil
  | x :: args, vs, n, t, h, hn => by
    cases h with
    | cons v _ vs _ h1 h2 =>
      simp only [initT, upd_eq]
      by_cases ht : t = n
      · subst ht; simpa using h1
      · rw [if_neg ht]
        have := init_rel (n := n + 1) (t := t) h2 (by omega)
        rw [show t - n = (t - (n + 1)) + 1 by omega, List.getElem?_cons_succ]
        exact this

theorem loadVar_of {t b off : Nat} {v : Value} (h : (Instr.loadAt t (.pointer (some ⟨b, off, none⟩))).run P w = .ok v w) : (loadVar t ⟨b, off, none⟩).run P w = .ok v w := by
  simpa only [Instr.loadAt, Instr.sureAddr, Sem.run_bind, Sem.run_pure, Result.andThen_ok] using h

def resM (tmps : Array Value) : ResultVar → Sem Value
  | .tmp t => pure (tmps.getD t undef)
  | .cell c t => do loadVar t (← asAddr (tmps.getD c undef))

theorem results_run (fn : Func) (tmps : Array Value) (w : World) :
    (results fn tmps).run P w = ((fn.results.toList.mapM (resM tmps)).run P w).andThen fun vs w' => .ok (match vs with | [v] => v | vs => .tuple ⟨vs⟩) w' := by
  have : results fn tmps = (do let vs ← fn.results.mapM (resM tmps); pure (if h : vs.size = 1 then vs[0] else .tuple vs)) := rfl
  rw [this, Array.mapM_eq_mapM_toList]
  simp only [Sem.run_bind, map_eq_pure_bind, bind_assoc, Sem.run_pure, pure_bind]
  cases (fn.results.toList.mapM (resM tmps)).run P w with
  | halt h w' => rfl
  | ok vs w' =>
    simp only [Result.andThen_ok]
    cases vs with
    | nil => simp
    | cons v vs => cases vs with
      | nil => simp
      | cons u vs => simp

theorem res_rel {an : Ann} {rv : ResultVar} {r : Res} {x : Val} (p : Pre n0 gl nt w G ρ lam a st) (hc : compRes P an rv = some r) (hr : resOf st r = some x) :
    ∃ v, (resM a.tmps rv).run P w = .ok v w ∧ RelT w G ρ lam .res v x := by
  cases rv with
  | tmp t =>
    simp only [compRes, Option.some.injEq] at hc
    subst hc
    simp only [resOf, Option.some.injEq] at hr
    subst hr
    exact ⟨_, by simp only [resM, Sem.run_pure], (p.rel.tm t).frz⟩
  | cell c t =>
    simp only [compRes, Option.bind_eq_bind, Option.bind_eq_some_iff] at hc
    obtain ⟨n, hn, ag, hag, hc⟩ := hc
    split at hc
    · rename_i h1
      have h1 : ag = false → n = 1 := by intro h; subst h; simpa using h1
      simp only [Option.some.injEq] at hc
      have hT := p.rel.tm c
      split at hc
      · subst hc
        simp only [resOf] at hr
        split at hr
        · rename_i i off he
          rw [he] at hT
          have hA : RelA w G ρ (a.tmps.getD c undef) (.ptr i off) := hT
          generalize hv : a.tmps.getD c undef = v at hA
          cases hA with
          | ptr _ _ b hb =>
            have hO := p.rel.ob.at hb
            split at hr
            · rename_i cs hcs
              rw [hcs] at hO
              cases hle : Nat.ble (off + n) cs.length with
              | false => rw [hle] at hr; simp at hr
              | true =>
                rw [hle] at hr
                simp only [cond, Option.some.injEq] at hr
                subst hr
                obtain ⟨v, hrun, hrel⟩ := load_run hO (Nat.le_of_ble_eq_true hle) hn hag h1
                refine ⟨v, ?_, .of_A hrel⟩
                simp only [resM, Sem.run_bind, hv, asAddr, Sem.run_pure, Result.andThen_ok]
                exact loadVar_of hrun
            · simp at hr
        · simp at hr
      · subst hc
        simp only [resOf] at hr
        split at hr
        · rename_i t' he
          rw [he] at hT
          obtain ⟨b, hb, hv⟩ := hT
          split at hr
          · rename_i cs hcs
            obtain ⟨b', hb', hO⟩ := p.rel.bx t' cs hcs
            rw [hb'] at hb
            simp only [Option.some.injEq] at hb
            subst hb
            cases hle : Nat.ble n cs.length with
            | false => rw [hle] at hr; simp at hr
            | true =>
              rw [hle] at hr
              simp only [cond, Option.some.injEq] at hr
              subst hr
              obtain ⟨v, hrun, hrel⟩ := load_run (off := 0) hO (by rw [Nat.zero_add]; exact Nat.le_of_ble_eq_true hle) hn hag h1
              refine ⟨v, ?_, .of_A hrel⟩
              simp only [resM, Sem.run_bind, hv, asAddr, Sem.run_pure, Result.andThen_ok]
              exact loadVar_of hrun
          · simp at hr
        · simp at hr
    · simp at hc

theorem relA_frz {L : Loc} {v : Value} {x : Val} {n : Nat} (h : RelT w G ρ lam L v x) (hn : noL n (frz x) = true) : RelA w G ρ v (frz x) := by
  rcases h.cases with h | ⟨t, off, b, rfl, _, _⟩
  · exact h.frz
  · cases n <;> simp [frz, noL] at hn

/-- Several results. -/
theorem res_all {an : Ann} (p : Pre n0 gl nt w G ρ lam a st) : ∀ {l : List ResultVar} {rs : List Res} {xs : List Val}, l.mapM (compRes P an) = some rs → resAll st rs = some xs → xs.all (noL (depth - 1)) = true →
    ∃ vs, (l.mapM (resM a.tmps)).run P w = .ok vs w ∧ RelL w G ρ vs xs
  | [], rs, xs, hc, hr, _ => by
    have := mapM_all2 hc
    cases this
    simp only [resAll, Option.some.injEq] at hr
    subst hr
    exact ⟨[], by simp only [List.mapM_nil, Sem.run_pure], .nil⟩
  | rv :: l, rs, xs, hc, hr, hn => by
    simp only [List.mapM_cons, Option.bind_eq_bind, Option.bind_eq_some_iff, Option.pure_def, Option.some.injEq] at hc
    obtain ⟨r, h1, rs, h2, rfl⟩ := hc
    simp only [resAll] at hr
    split at hr
    · rename_i x xs e1 e2
      simp only [Option.some.injEq] at hr
      subst hr
      simp only [List.all_cons, Bool.and_eq_true] at hn
      obtain ⟨v, hv, hT⟩ := res_rel p h1 e1
      obtain ⟨vs, hvs, hL⟩ := res_all p h2 e2 hn.2
      refine ⟨v :: vs, ?_, .cons _ _ _ _ (relA_frz hT hn.1) hL⟩
      rw [List.mapM_cons]
      simp only [Sem.run_bind]
      rw [hv]
      simp only [Result.andThen_ok]
      rw [hvs]
      simp only [Result.andThen_ok, Sem.run_pure]
    · simp at hr

/-- What a function hands back, of its last state. -/
theorem fin_rel {an : Ann} {fn : Func} {rs : List Res} {r : Val} (p : Pre n0 gl nt w G ρ lam a st) (hc : compRs P an fn.results.toList = some rs) (hr : resVal st rs = some r) (hn : noL depth r = true) :
    ∃ v G2, (results fn a.tmps).run P w = .ok v w ∧ RelV w G2 ρ .res v r ∧ RelObs w G2 ρ st.s ∧ (∀ b L n, G2 b = some (L, n) → b < w.heap.size) ∧ Good w G w G2 := by
  unfold compRs at hc
  split at hc
  · rename_i t ho hl
    simp only [Option.some.injEq] at hc
    subst hc
    simp only [resVal, resOf, Option.some.injEq] at hr
    subst hr
    have hs : SameL (.slot t) .res w G w (relab (swapL (.slot t) .res) G) := by
      have := relab_same (w := w) (G := G) (swapL (.slot t) .res) (.slot t)
      rwa [swapL_self] at this
    have hid : ∀ L, L ≠ .slot t → SameL L L w G w (relab (swapL (.slot t) .res) G) := fun L hL => relab_same' (swapL_ne hL)
    have hT := (p.rel.tm t).tr (lam' := lam) (relab_keeps _) (fun _ _ h => h) (fun _ _ h => h) hs
    refine ⟨_, relab (swapL (.slot t) .res) G, ?_, hT.of_noL hn, p.rel.ob.tr (relab_keeps _) (fun i => hid _ (by simp)) (fun i j => hid _ (by simp)), relab_lt p.rel.lt, swap_good p.rel.lt (by simp) (by simp)⟩
    rw [results_run, hl]
    simp only [List.mapM_cons, List.mapM_nil, resM, Sem.run_bind, Sem.run_pure, Result.andThen_ok]
  · simp at hc
  · rename_i ho
    by_cases h1 : ∃ r0, rs = [r0]
    · obtain ⟨r0, rfl⟩ := h1
      have hl : ∃ rv, fn.results.toList = [rv] ∧ compRes P an rv = some r0 := by
        have := mapM_all2 hc
        generalize fn.results.toList = l at this
        cases this with
        | cons h1 h2 => cases h2; exact ⟨_, rfl, h1⟩
      obtain ⟨rv, hl, hrv⟩ := hl
      simp only [resVal] at hr
      obtain ⟨v, hv, hT⟩ := res_rel p hrv hr
      refine ⟨v, G, ?_, hT.of_noL hn, p.rel.ob, p.rel.lt, Good.refl p.rel.lt⟩
      rw [results_run, hl]
      simp only [List.mapM_cons, List.mapM_nil, Sem.run_bind, hv, Sem.run_pure, Result.andThen_ok]
    · replace hr : (resAll st rs).map .tuple = some r := by
        unfold resVal at hr
        split at hr
        · exact absurd ⟨_, rfl⟩ h1
        · exact hr
      simp only [Option.map_eq_some_iff] at hr
      obtain ⟨xs, hx, rfl⟩ := hr
      obtain ⟨vs, hvs, hL⟩ := res_all p hc hx (by simpa [noL, depth] using hn)
      refine ⟨.tuple ⟨vs⟩, G, ?_, .of_A (.tuple _ _ hL), p.rel.ob, p.rel.lt, Good.refl p.rel.lt⟩
      rw [results_run, hvs]
      simp only [Result.andThen_ok]
      have hlen : vs.length = rs.length := by
        rw [hL.length]
        clear hc hvs hL hn ho h1
        induction rs generalizing xs with
        | nil => simp only [resAll, Option.some.injEq] at hx; subst hx; rfl
        | cons r rs ih =>
          simp only [resAll] at hx
          split at hx
          · rename_i e1 e2
            simp only [Option.some.injEq] at hx
            subst hx
            simp [ih _ e2]
          · simp at hx
      cases vs with
      | nil => rfl
      | cons v vs => cases vs with
        | nil =>
          exfalso
          cases rs with
          | nil => simp at hlen
          | cons r rs => cases rs with
            | nil => exact h1 ⟨r, rfl⟩
            | cons _ _ => simp at hlen
        | cons _ _ => rfl

/-- A function's contract, where its body's code is so. -/
theorem vev_of_sim {an : Ann} {f : Nat} {fn : Func} {c : Code} {vc : VC} {rs : List Res} {args : List Val} {s s' : Store} {r : Val} (hf : P.funcs[f]? = some fn) (hname : (fn.name == "runtime.NumGoroutine") = false) (hb : fn.body = some c)
    (hrs : compRs P an fn.results.toList = some rs)
    (hsim : ∀ (n0 : Nat) (w : World) (G : Gh) (ρ : List Nat) (lam : Nat → Option Nat) (a : Act) (st : St) {K : Ex → St → Prop}, Pre n0 gl fn.ntmps w G ρ lam a st → n0 ≤ w.heap.size → run (AP P gl) gl vc st K → c.wp P (Post n0 gl fn.ntmps w G ρ K) a w)
    (hr : runF (AP P gl) gl ⟨vc, rs⟩ args s fun r' s'' => r' = r ∧ s'' = s') : VEv P gl f args s r s' := by
  refine ⟨⟨fn, hf, by rw [hb]; rfl, hname⟩, ?_⟩
  intro w G ρ vs hob hg hlt hargs
  refine callsIn_wide.1 (callsIn_of_wp_marks (n := 0) hf hb trivial (wpIn_wide.2 ?_))
  have p : Pre w.heap.size gl fn.ntmps w G ρ (fun _ => none) { tmps := (⟨vs⟩ : Array Value) ++ Array.replicate (fn.ntmps - (⟨vs⟩ : Array Value).size) undef, defers := [] } { tm := initT args 0, bx := fun _ => none, s } := by
    refine ⟨⟨?_, fun t cs h => by simp at h, fun _ _ => rfl, hob, hg, hlt⟩, .nil, ?_⟩
    · intro t
      have h1 := init_rel (n := 0) (t := t) hargs (Nat.zero_le _)
      have h2 : (((⟨vs⟩ : Array Value) ++ Array.replicate (fn.ntmps - (⟨vs⟩ : Array Value).size) undef).getD t undef) = (vs[t - 0]?).getD undef := by
        rw [Array.getD_eq_getD_getElem?, Array.getElem?_append, Nat.sub_zero]
        split
        · simp
        · rename_i ht
          have ht : vs.length ≤ t := by simpa using ht
          rw [List.getElem?_eq_none ht, Array.getElem?_replicate]
          split <;> rfl
      rw [h2]
      exact .of_A h1
    · simp; omega
  unfold runF at hr
  refine wp_mono (hsim w.heap.size w G ρ (fun _ => none) _ _ p (Nat.le_refl _) hr) ?_
  have fin : ∀ (a' : Act) (w' : World), After w.heap.size gl fn.ntmps w G ρ (fun st => match resVal st rs with
      | some r' => noL depth r' = true ∧ (r' = r ∧ gc s.length r' st.s = s')
      | none => False) a' w' → LeavesInM Fence.wide 0 P fn a'.tmps (fun e w' => ∃ v G' ρ', e = .returned v ∧ RelV w' G' ρ' .res v r ∧ RelObs w' G' ρ' s' ∧
        (∀ b L n, G' b = some (L, n) → b < w'.heap.size) ∧ Good w G w' G' ∧ (∀ i b : Nat, ρ[i]? = some b → ρ'[i]? = some b)) a'.defers .returning w' := by
    rintro a' w' ⟨e2, G', ρ', lam', st', e1, e3, e4, e5, e6⟩
    split at e6
    · rename_i r' hr'
      obtain ⟨hn, rfl, hs⟩ := e6
      have e1' := e1
      obtain ⟨Ds, hDs, _, _⟩ := e1'
      rw [hDs] at e1 ⊢
      refine leaves_marks Ds e3 e4 e1 fun w' e3 e4 => ?_
      have p' : Pre 0 gl fn.ntmps w' G' ρ' lam' { a' with defers := [] } st' := ⟨e3, .nil, e2⟩
      obtain ⟨v, G2, h1, h2, h3, h4, h5⟩ := fin_rel p' hrs hr' hn
      refine ⟨v, h1, v, G2, ?_⟩
      unfold gc at hs
      cases hcnd : (okR s.length depth r' && (st'.s.take s.length).all (Ob.okR s.length)) with
      | false =>
        rw [hcnd] at hs
        simp only [cond] at hs
        subst hs
        exact ⟨ρ', rfl, h2, h3, h4, e4.trans h5, e5⟩
      | true =>
        rw [hcnd] at hs
        simp only [cond] at hs
        simp only [Bool.and_eq_true] at hcnd
        subst hs
        refine ⟨ρ'.take s.length, rfl, okR_V h2 hcnd.1, okR_obs h3 hcnd.2, h4, e4.trans h5, ?_⟩
        · intro i b hi
          refine take_get ?_ (e5 i b hi)
          rw [← hob.1]
          rcases Nat.lt_or_ge i ρ.length with h | h
          · exact h
          · rw [List.getElem?_eq_none h] at hi; simp at hi
    · exact e6.elim
  intro e a' w' h
  cases e with
  | normal => exact fin a' w' h
  | ret => exact fin a' w' h
  | exit i => obtain ⟨_, _, _, _, _, _, _, _, _, h⟩ := h; exact h.elim
  | _ => exact h.elim

/-- What the machine computes, the call computes. -/
theorem vev_of_run (hany : AnyLaw P gl) (hrf : RangeLaw P gl) {an : Ann} {f : Nat} {fn : Func} {vf : VF} {args : List Val} {s s' : Store} {r : Val} (hf : P.funcs[f]? = some fn) (hname : (fn.name == "runtime.NumGoroutine") = false) (hc : compF P an fn = some vf)
    (hr : runF (AP P gl) gl vf args s fun r' s'' => r' = r ∧ s'' = s') : VEv P gl f args s r s' := by
  unfold compF at hc
  simp only [Option.bind_eq_bind, Option.bind_eq_some_iff] at hc
  obtain ⟨c, hb, ⟨vc, l'⟩, hcc, rs, hrs, hvf⟩ := hc
  simp only [Option.some.injEq] at hvf
  subst hvf
  exact vev_of_sim hf hname hb hrs (fun n0 w G ρ lam a st K p hn hr => sim_code hany hrf c hcc p p.far hn hr) hr

end
end Go.Vm
end

section
/- What an instruction looks at, and what it writes. Conditions: none. -/
set_option linter.unusedSimpArgs false
namespace Go.Vm

section
variable {P : Program} {gl : Nat → List D}

/-- Two states that an instruction cannot tell apart. -/
structure Agree (i : I) (st st2 : St) : Prop where
  tm : ∀ t, t ∈ i.rd → st2.tm t = st.tm t
  bx : ∀ t, t ∈ i.brd → st2.bx t = st.bx t
  s : i.rs = true → st2.s = st.s

/-- What one state has, where an instruction writes; what the other has elsewhere. -/
def mix (i : I) (st2 st' : St) : St :=
  ⟨fun t => if t ∈ i.wr then st'.tm t else st2.tm t, fun t => if t ∈ i.bwr then st'.bx t else st2.bx t, if i.ws = true then st'.s else st2.s⟩

/-- An instruction's one outcome. -/
def Ch1 (P : Program) (gl : Nat → List D) (i : I) (st : St) (K : St → Prop) : Prop :=
  ∃ st', K st' ∧ (∀ t, t ∉ i.wr → st'.tm t = st.tm t) ∧ (∀ t, t ∉ i.bwr → st'.bx t = st.bx t) ∧ (i.ws = false → st'.s = st.s) ∧
    ∀ st2 (K2 : St → Prop), Agree i st st2 → K2 (mix i st2 st') → step (AP P gl) gl i st2 K2

def Ch (P : Program) (gl : Nat → List D) (i : I) : Prop := ∀ st (K : St → Prop), step (AP P gl) gl i st K → Ch1 P gl i st K

theorem Agree.ev {i : I} {st st2 : St} (h : Agree i st st2) {x : O} (hx : ∀ t, t ∈ x.slots → t ∈ i.rd) : Vm.ev gl st2 x = Vm.ev gl st x := by
  cases x with
  | t n => exact h.tm n (hx n (by simp [O.slots]))
  | c v => rfl
  | g n => rfl

theorem mix_eq {i : I} {st2 st' st3 : St} (h1 : ∀ t, (if t ∈ i.wr then st'.tm t else st2.tm t) = st3.tm t) (h2 : ∀ t, (if t ∈ i.bwr then st'.bx t else st2.bx t) = st3.bx t) (h3 : (if i.ws = true then st'.s else st2.s) = st3.s) :
    mix i st2 st' = st3 := by
  obtain ⟨a, b, c⟩ := st3
  simp only [mix, St.mk.injEq]
  exact ⟨funext h1, funext h2, h3⟩

theorem Ch1.set {i : I} {d : Nat} {v : Val} {st : St} {K : St → Prop} (hw : i.wr = [d]) (hb : i.bwr = []) (hs : i.ws = false) (hK : K (st.set d v))
    (h : ∀ st2 (K2 : St → Prop), Agree i st st2 → K2 (st2.set d v) → step (AP P gl) gl i st2 K2) : Ch1 P gl i st K := by
  refine ⟨_, hK, fun t ht => ?_, fun t _ => rfl, fun _ => rfl, fun st2 K2 ag hk => h st2 K2 ag ?_⟩
  · rw [hw] at ht
    simp only [List.mem_singleton] at ht
    simp only [St.set, upd_eq, ht, if_false]
  · have : mix i st2 (st.set d v) = st2.set d v := by
      refine mix_eq (fun t => ?_) (fun t => by simp [hb, St.set]) (by simp [hs, St.set])
      simp only [hw, List.mem_singleton, St.set, upd_eq]
      split <;> rfl
    rwa [this] at hk

theorem AP_guard (b : Bool) (p : Prop) : (AP P gl).guard b p = (b = true ∧ p) := rfl
theorem AP_fail : (AP P gl).fail = False := rfl

theorem ch_mv {d : Nat} {x : O} : Ch P gl (.mv d x) := by
  intro st K h
  simp only [step] at h
  repeat' split at h
  all_goals first
    | exact h.elim
    | exact h.2.elim
    | exact .set rfl rfl rfl h fun st2 K2 ag hk => by simp only [step, ag.ev (x := x) (fun t ht => ht), AP_guard, and_self, cond_true, cond_false, ↓reduceIte, Bool.false_eq_true, *]
    | exact .set rfl rfl rfl h.2 fun st2 K2 ag hk => by have h1 := h.1; simp only [step, ag.ev (x := x) (fun t ht => ht), AP_guard, and_self, cond_true, cond_false, ↓reduceIte, Bool.false_eq_true, *]
    | exact .set rfl rfl rfl h.2.2 fun st2 K2 ag hk => by have h1 := h.1; have h2 := h.2.1; simp only [step, ag.ev (x := x) (fun t ht => ht), AP_guard, and_self, cond_true, cond_false, ↓reduceIte, Bool.false_eq_true, *]

theorem ch_pk {d : Nat} {c x y : O} : Ch P gl (.pk d c x y) := by
  intro st K h
  simp only [step] at h
  repeat' split at h
  all_goals (try (rename_i t _; cases t))
  all_goals first
    | exact h.elim
    | exact h.2.elim
    | exact .set rfl rfl rfl h fun st2 K2 ag hk => by simp only [step, ag.ev (x := c) (fun t ht => List.mem_append_left _ (List.mem_append_left _ ht)), ag.ev (x := x) (fun t ht => List.mem_append_left _ (List.mem_append_right _ ht)), ag.ev (x := y) (fun t ht => List.mem_append_right _ ht), AP_guard, and_self, cond_true, cond_false, ↓reduceIte, Bool.false_eq_true, *]
    | exact .set rfl rfl rfl h.2 fun st2 K2 ag hk => by have h1 := h.1; simp only [step, ag.ev (x := c) (fun t ht => List.mem_append_left _ (List.mem_append_left _ ht)), ag.ev (x := x) (fun t ht => List.mem_append_left _ (List.mem_append_right _ ht)), ag.ev (x := y) (fun t ht => List.mem_append_right _ ht), AP_guard, and_self, cond_true, cond_false, ↓reduceIte, Bool.false_eq_true, *]
    | exact .set rfl rfl rfl h.2.2 fun st2 K2 ag hk => by have h1 := h.1; have h2 := h.2.1; simp only [step, ag.ev (x := c) (fun t ht => List.mem_append_left _ (List.mem_append_left _ ht)), ag.ev (x := x) (fun t ht => List.mem_append_left _ (List.mem_append_right _ ht)), ag.ev (x := y) (fun t ht => List.mem_append_right _ ht), AP_guard, and_self, cond_true, cond_false, ↓reduceIte, Bool.false_eq_true, *]

theorem ch_nc {d : Nat} {x : O} : Ch P gl (.nc d x) := by
  intro st K h
  simp only [step] at h
  repeat' split at h
  all_goals first
    | exact h.elim
    | exact h.2.elim
    | exact .set rfl rfl rfl h fun st2 K2 ag hk => by simp only [step, ag.ev (x := x) (fun t ht => ht), AP_guard, and_self, cond_true, cond_false, ↓reduceIte, Bool.false_eq_true, *]
    | exact .set rfl rfl rfl h.2 fun st2 K2 ag hk => by have h1 := h.1; simp only [step, ag.ev (x := x) (fun t ht => ht), AP_guard, and_self, cond_true, cond_false, ↓reduceIte, Bool.false_eq_true, *]
    | exact .set rfl rfl rfl h.2.2 fun st2 K2 ag hk => by have h1 := h.1; have h2 := h.2.1; simp only [step, ag.ev (x := x) (fun t ht => ht), AP_guard, and_self, cond_true, cond_false, ↓reduceIte, Bool.false_eq_true, *]

theorem ch_bi {d : Nat} {op : BinOp} {x y : O} : Ch P gl (.bi d op x y) := by
  intro st K h
  simp only [step] at h
  repeat' split at h
  all_goals first
    | exact h.elim
    | exact h.2.elim
    | exact .set rfl rfl rfl h fun st2 K2 ag hk => by simp only [step, ag.ev (x := x) (fun t ht => List.mem_append_left _ ht), ag.ev (x := y) (fun t ht => List.mem_append_right _ ht), AP_guard, and_self, cond_true, cond_false, ↓reduceIte, Bool.false_eq_true, *]
    | exact .set rfl rfl rfl h.2 fun st2 K2 ag hk => by have h1 := h.1; simp only [step, ag.ev (x := x) (fun t ht => List.mem_append_left _ ht), ag.ev (x := y) (fun t ht => List.mem_append_right _ ht), AP_guard, and_self, cond_true, cond_false, ↓reduceIte, Bool.false_eq_true, *]
    | exact .set rfl rfl rfl h.2.2 fun st2 K2 ag hk => by have h1 := h.1; have h2 := h.2.1; simp only [step, ag.ev (x := x) (fun t ht => List.mem_append_left _ ht), ag.ev (x := y) (fun t ht => List.mem_append_right _ ht), AP_guard, and_self, cond_true, cond_false, ↓reduceIte, Bool.false_eq_true, *]

theorem ch_eq {d : Nat} {neg ag : Bool} {ks : List Nat} {x y : O} : Ch P gl (.eq d neg ag ks x y) := by
  intro st K h
  simp only [step] at h
  repeat' split at h
  all_goals first
    | exact h.elim
    | exact h.2.elim
    | exact .set rfl rfl rfl h fun st2 K2 ag hk => by simp only [step, ag.ev (x := x) (fun t ht => List.mem_append_left _ ht), ag.ev (x := y) (fun t ht => List.mem_append_right _ ht), AP_guard, and_self, cond_true, cond_false, ↓reduceIte, Bool.false_eq_true, *]
    | exact .set rfl rfl rfl h.2 fun st2 K2 ag hk => by have h1 := h.1; simp only [step, ag.ev (x := x) (fun t ht => List.mem_append_left _ ht), ag.ev (x := y) (fun t ht => List.mem_append_right _ ht), AP_guard, and_self, cond_true, cond_false, ↓reduceIte, Bool.false_eq_true, *]
    | exact .set rfl rfl rfl h.2.2 fun st2 K2 ag hk => by have h1 := h.1; have h2 := h.2.1; simp only [step, ag.ev (x := x) (fun t ht => List.mem_append_left _ ht), ag.ev (x := y) (fun t ht => List.mem_append_right _ ht), AP_guard, and_self, cond_true, cond_false, ↓reduceIte, Bool.false_eq_true, *]

theorem ch_un {d : Nat} {op : UnOp} {x : O} : Ch P gl (.un d op x) := by
  intro st K h
  simp only [step] at h
  repeat' split at h
  all_goals first
    | exact h.elim
    | exact h.2.elim
    | exact .set rfl rfl rfl h fun st2 K2 ag hk => by simp only [step, ag.ev (x := x) (fun t ht => ht), AP_guard, and_self, cond_true, cond_false, ↓reduceIte, Bool.false_eq_true, *]
    | exact .set rfl rfl rfl h.2 fun st2 K2 ag hk => by have h1 := h.1; simp only [step, ag.ev (x := x) (fun t ht => ht), AP_guard, and_self, cond_true, cond_false, ↓reduceIte, Bool.false_eq_true, *]
    | exact .set rfl rfl rfl h.2.2 fun st2 K2 ag hk => by have h1 := h.1; have h2 := h.2.1; simp only [step, ag.ev (x := x) (fun t ht => ht), AP_guard, and_self, cond_true, cond_false, ↓reduceIte, Bool.false_eq_true, *]

theorem ch_ci {d : Nat} {k : IntKind} {x : O} : Ch P gl (.ci d k x) := by
  intro st K h
  simp only [step] at h
  repeat' split at h
  all_goals first
    | exact h.elim
    | exact h.2.elim
    | exact .set rfl rfl rfl h fun st2 K2 ag hk => by simp only [step, ag.ev (x := x) (fun t ht => ht), AP_guard, and_self, cond_true, cond_false, ↓reduceIte, Bool.false_eq_true, *]
    | exact .set rfl rfl rfl h.2 fun st2 K2 ag hk => by have h1 := h.1; simp only [step, ag.ev (x := x) (fun t ht => ht), AP_guard, and_self, cond_true, cond_false, ↓reduceIte, Bool.false_eq_true, *]
    | exact .set rfl rfl rfl h.2.2 fun st2 K2 ag hk => by have h1 := h.1; have h2 := h.2.1; simp only [step, ag.ev (x := x) (fun t ht => ht), AP_guard, and_self, cond_true, cond_false, ↓reduceIte, Bool.false_eq_true, *]

theorem ch_cs {d : Nat} {x : O} : Ch P gl (.cs d x) := by
  intro st K h
  simp only [step] at h
  repeat' split at h
  all_goals first
    | exact h.elim
    | exact h.2.elim
    | exact .set rfl rfl rfl h fun st2 K2 ag hk => by simp only [step, ag.ev (x := x) (fun t ht => ht), AP_guard, and_self, cond_true, cond_false, ↓reduceIte, Bool.false_eq_true, *]
    | exact .set rfl rfl rfl h.2 fun st2 K2 ag hk => by have h1 := h.1; simp only [step, ag.ev (x := x) (fun t ht => ht), AP_guard, and_self, cond_true, cond_false, ↓reduceIte, Bool.false_eq_true, *]
    | exact .set rfl rfl rfl h.2.2 fun st2 K2 ag hk => by have h1 := h.1; have h2 := h.2.1; simp only [step, ag.ev (x := x) (fun t ht => ht), AP_guard, and_self, cond_true, cond_false, ↓reduceIte, Bool.false_eq_true, *]

theorem ch_sb {d : Nat} {x : O} : Ch P gl (.sb d x) := by
  intro st K h
  simp only [step] at h
  repeat' split at h
  all_goals first
    | exact h.elim
    | exact h.2.elim
    | exact .set rfl rfl rfl h fun st2 K2 ag hk => by simp only [step, ag.ev (x := x) (fun t ht => ht), AP_guard, and_self, cond_true, cond_false, ↓reduceIte, Bool.false_eq_true, *]
    | exact .set rfl rfl rfl h.2 fun st2 K2 ag hk => by have h1 := h.1; simp only [step, ag.ev (x := x) (fun t ht => ht), AP_guard, and_self, cond_true, cond_false, ↓reduceIte, Bool.false_eq_true, *]
    | exact .set rfl rfl rfl h.2.2 fun st2 K2 ag hk => by have h1 := h.1; have h2 := h.2.1; simp only [step, ag.ev (x := x) (fun t ht => ht), AP_guard, and_self, cond_true, cond_false, ↓reduceIte, Bool.false_eq_true, *]

theorem ch_bs {d : Nat} {x : O} : Ch P gl (.bs d x) := by
  intro st K h
  simp only [step] at h
  repeat' split at h
  all_goals first
    | exact h.elim
    | exact h.2.elim
    | exact .set rfl rfl rfl h fun st2 K2 ag hk => by simp only [step, ag.ev (x := x) (fun t ht => ht), AP_guard, and_self, cond_true, cond_false, ↓reduceIte, Bool.false_eq_true, *]
    | exact .set rfl rfl rfl h.2 fun st2 K2 ag hk => by have h1 := h.1; simp only [step, ag.ev (x := x) (fun t ht => ht), AP_guard, and_self, cond_true, cond_false, ↓reduceIte, Bool.false_eq_true, *]
    | exact .set rfl rfl rfl h.2.2 fun st2 K2 ag hk => by have h1 := h.1; have h2 := h.2.1; simp only [step, ag.ev (x := x) (fun t ht => ht), AP_guard, and_self, cond_true, cond_false, ↓reduceIte, Bool.false_eq_true, *]

theorem ch_fa {d : Nat} {x : O} {off : Nat} : Ch P gl (.fa d x off) := by
  intro st K h
  simp only [step] at h
  repeat' split at h
  all_goals first
    | exact h.elim
    | exact h.2.elim
    | exact .set rfl rfl rfl h fun st2 K2 ag hk => by simp only [step, ag.ev (x := x) (fun t ht => ht), AP_guard, and_self, cond_true, cond_false, ↓reduceIte, Bool.false_eq_true, *]
    | exact .set rfl rfl rfl h.2 fun st2 K2 ag hk => by have h1 := h.1; simp only [step, ag.ev (x := x) (fun t ht => ht), AP_guard, and_self, cond_true, cond_false, ↓reduceIte, Bool.false_eq_true, *]
    | exact .set rfl rfl rfl h.2.2 fun st2 K2 ag hk => by have h1 := h.1; have h2 := h.2.1; simp only [step, ag.ev (x := x) (fun t ht => ht), AP_guard, and_self, cond_true, cond_false, ↓reduceIte, Bool.false_eq_true, *]

theorem ch_fd {d : Nat} {x : O} {off n : Nat} {ag : Bool} : Ch P gl (.fd d x off n ag) := by
  intro st K h
  simp only [step] at h
  repeat' split at h
  all_goals first
    | exact h.elim
    | exact h.2.elim
    | exact .set rfl rfl rfl h fun st2 K2 ag hk => by simp only [step, ag.ev (x := x) (fun t ht => ht), AP_guard, and_self, cond_true, cond_false, ↓reduceIte, Bool.false_eq_true, *]
    | exact .set rfl rfl rfl h.2 fun st2 K2 ag hk => by have h1 := h.1; simp only [step, ag.ev (x := x) (fun t ht => ht), AP_guard, and_self, cond_true, cond_false, ↓reduceIte, Bool.false_eq_true, *]
    | exact .set rfl rfl rfl h.2.2 fun st2 K2 ag hk => by have h1 := h.1; have h2 := h.2.1; simp only [step, ag.ev (x := x) (fun t ht => ht), AP_guard, and_self, cond_true, cond_false, ↓reduceIte, Bool.false_eq_true, *]

theorem ch_ia {d : Nat} {x y : O} {sz : Nat} : Ch P gl (.ia d x y sz) := by
  intro st K h
  simp only [step] at h
  repeat' split at h
  all_goals first
    | exact h.elim
    | exact h.2.elim
    | exact .set rfl rfl rfl h fun st2 K2 ag hk => by simp only [step, ag.ev (x := x) (fun t ht => List.mem_append_left _ ht), ag.ev (x := y) (fun t ht => List.mem_append_right _ ht), AP_guard, and_self, cond_true, cond_false, ↓reduceIte, Bool.false_eq_true, *]
    | exact .set rfl rfl rfl h.2 fun st2 K2 ag hk => by have h1 := h.1; simp only [step, ag.ev (x := x) (fun t ht => List.mem_append_left _ ht), ag.ev (x := y) (fun t ht => List.mem_append_right _ ht), AP_guard, and_self, cond_true, cond_false, ↓reduceIte, Bool.false_eq_true, *]
    | exact .set rfl rfl rfl h.2.2 fun st2 K2 ag hk => by have h1 := h.1; have h2 := h.2.1; simp only [step, ag.ev (x := x) (fun t ht => List.mem_append_left _ ht), ag.ev (x := y) (fun t ht => List.mem_append_right _ ht), AP_guard, and_self, cond_true, cond_false, ↓reduceIte, Bool.false_eq_true, *]

theorem ch_aa {d : Nat} {x y : O} {len sz : Nat} : Ch P gl (.aa d x y len sz) := by
  intro st K h
  simp only [step] at h
  repeat' split at h
  all_goals first
    | exact h.elim
    | exact h.2.elim
    | exact .set rfl rfl rfl h fun st2 K2 ag hk => by simp only [step, ag.ev (x := x) (fun t ht => List.mem_append_left _ ht), ag.ev (x := y) (fun t ht => List.mem_append_right _ ht), AP_guard, and_self, cond_true, cond_false, ↓reduceIte, Bool.false_eq_true, *]
    | exact .set rfl rfl rfl h.2 fun st2 K2 ag hk => by have h1 := h.1; simp only [step, ag.ev (x := x) (fun t ht => List.mem_append_left _ ht), ag.ev (x := y) (fun t ht => List.mem_append_right _ ht), AP_guard, and_self, cond_true, cond_false, ↓reduceIte, Bool.false_eq_true, *]
    | exact .set rfl rfl rfl h.2.2 fun st2 K2 ag hk => by have h1 := h.1; have h2 := h.2.1; simp only [step, ag.ev (x := x) (fun t ht => List.mem_append_left _ ht), ag.ev (x := y) (fun t ht => List.mem_append_right _ ht), AP_guard, and_self, cond_true, cond_false, ↓reduceIte, Bool.false_eq_true, *]

theorem ch_ix {d : Nat} {x y : O} : Ch P gl (.ix d x y) := by
  intro st K h
  simp only [step] at h
  repeat' split at h
  all_goals first
    | exact h.elim
    | exact h.2.elim
    | exact .set rfl rfl rfl h fun st2 K2 ag hk => by simp only [step, ag.ev (x := x) (fun t ht => List.mem_append_left _ ht), ag.ev (x := y) (fun t ht => List.mem_append_right _ ht), AP_guard, and_self, cond_true, cond_false, ↓reduceIte, Bool.false_eq_true, *]
    | exact .set rfl rfl rfl h.2 fun st2 K2 ag hk => by have h1 := h.1; simp only [step, ag.ev (x := x) (fun t ht => List.mem_append_left _ ht), ag.ev (x := y) (fun t ht => List.mem_append_right _ ht), AP_guard, and_self, cond_true, cond_false, ↓reduceIte, Bool.false_eq_true, *]
    | exact .set rfl rfl rfl h.2.2 fun st2 K2 ag hk => by have h1 := h.1; have h2 := h.2.1; simp only [step, ag.ev (x := x) (fun t ht => List.mem_append_left _ ht), ag.ev (x := y) (fun t ht => List.mem_append_right _ ht), AP_guard, and_self, cond_true, cond_false, ↓reduceIte, Bool.false_eq_true, *]

theorem ch_em {d : Nat} {x : O} : Ch P gl (.em d x) := by
  intro st K h
  simp only [step] at h
  repeat' split at h
  all_goals first
    | exact h.elim
    | exact h.2.elim
    | exact .set rfl rfl rfl h fun st2 K2 ag hk => by simp only [step, ag.ev (x := x) (fun t ht => ht), AP_guard, and_self, cond_true, cond_false, ↓reduceIte, Bool.false_eq_true, *]
    | exact .set rfl rfl rfl h.2 fun st2 K2 ag hk => by have h1 := h.1; simp only [step, ag.ev (x := x) (fun t ht => ht), AP_guard, and_self, cond_true, cond_false, ↓reduceIte, Bool.false_eq_true, *]
    | exact .set rfl rfl rfl h.2.2 fun st2 K2 ag hk => by have h1 := h.1; have h2 := h.2.1; simp only [step, ag.ev (x := x) (fun t ht => ht), AP_guard, and_self, cond_true, cond_false, ↓reduceIte, Bool.false_eq_true, *]

theorem ch_ln {d : Nat} {str : Bool} {x : O} : Ch P gl (.ln d str x) := by
  intro st K h
  simp only [step] at h
  repeat' split at h
  all_goals first
    | exact h.elim
    | exact h.2.elim
    | exact .set rfl rfl rfl h fun st2 K2 ag hk => by simp only [step, ag.ev (x := x) (fun t ht => ht), AP_guard, and_self, cond_true, cond_false, ↓reduceIte, Bool.false_eq_true, *]
    | exact .set rfl rfl rfl h.2 fun st2 K2 ag hk => by have h1 := h.1; simp only [step, ag.ev (x := x) (fun t ht => ht), AP_guard, and_self, cond_true, cond_false, ↓reduceIte, Bool.false_eq_true, *]
    | exact .set rfl rfl rfl h.2.2 fun st2 K2 ag hk => by have h1 := h.1; have h2 := h.2.1; simp only [step, ag.ev (x := x) (fun t ht => ht), AP_guard, and_self, cond_true, cond_false, ↓reduceIte, Bool.false_eq_true, *]

theorem ch_ex {d : Nat} {x : O} {j : Nat} : Ch P gl (.ex d x j) := by
  intro st K h
  simp only [step] at h
  repeat' split at h
  all_goals first
    | exact h.elim
    | exact h.2.elim
    | exact .set rfl rfl rfl h fun st2 K2 ag hk => by simp only [step, ag.ev (x := x) (fun t ht => ht), AP_guard, and_self, cond_true, cond_false, ↓reduceIte, Bool.false_eq_true, *]
    | exact .set rfl rfl rfl h.2 fun st2 K2 ag hk => by have h1 := h.1; simp only [step, ag.ev (x := x) (fun t ht => ht), AP_guard, and_self, cond_true, cond_false, ↓reduceIte, Bool.false_eq_true, *]
    | exact .set rfl rfl rfl h.2.2 fun st2 K2 ag hk => by have h1 := h.1; have h2 := h.2.1; simp only [step, ag.ev (x := x) (fun t ht => ht), AP_guard, and_self, cond_true, cond_false, ↓reduceIte, Bool.false_eq_true, *]

theorem ch_mn {d : Nat} {lt : Bool} {x y : O} : Ch P gl (.mn d lt x y) := by
  intro st K h
  simp only [step] at h
  repeat' split at h
  all_goals first
    | exact h.elim
    | exact h.2.elim
    | exact .set rfl rfl rfl h fun st2 K2 ag hk => by simp only [step, ag.ev (x := x) (fun t ht => List.mem_append_left _ ht), ag.ev (x := y) (fun t ht => List.mem_append_right _ ht), AP_guard, and_self, cond_true, cond_false, ↓reduceIte, Bool.false_eq_true, *]
    | exact .set rfl rfl rfl h.2 fun st2 K2 ag hk => by have h1 := h.1; simp only [step, ag.ev (x := x) (fun t ht => List.mem_append_left _ ht), ag.ev (x := y) (fun t ht => List.mem_append_right _ ht), AP_guard, and_self, cond_true, cond_false, ↓reduceIte, Bool.false_eq_true, *]
    | exact .set rfl rfl rfl h.2.2 fun st2 K2 ag hk => by have h1 := h.1; have h2 := h.2.1; simp only [step, ag.ev (x := x) (fun t ht => List.mem_append_left _ ht), ag.ev (x := y) (fun t ht => List.mem_append_right _ ht), AP_guard, and_self, cond_true, cond_false, ↓reduceIte, Bool.false_eq_true, *]

theorem ch_ax {d : Nat} {x y : O} {len sz : Nat} {ag : Bool} : Ch P gl (.ax d x y len sz ag) := by
  intro st K h
  simp only [step] at h
  repeat' split at h
  all_goals first
    | exact h.elim
    | exact h.2.elim
    | exact .set rfl rfl rfl h fun st2 K2 ag hk => by simp only [step, ag.ev (x := x) (fun t ht => List.mem_append_left _ ht), ag.ev (x := y) (fun t ht => List.mem_append_right _ ht), AP_guard, and_self, cond_true, cond_false, ↓reduceIte, Bool.false_eq_true, *]
    | exact .set rfl rfl rfl h.2 fun st2 K2 ag hk => by have h1 := h.1; simp only [step, ag.ev (x := x) (fun t ht => List.mem_append_left _ ht), ag.ev (x := y) (fun t ht => List.mem_append_right _ ht), AP_guard, and_self, cond_true, cond_false, ↓reduceIte, Bool.false_eq_true, *]
    | exact .set rfl rfl rfl h.2.2 fun st2 K2 ag hk => by have h1 := h.1; have h2 := h.2.1; simp only [step, ag.ev (x := x) (fun t ht => List.mem_append_left _ ht), ag.ev (x := y) (fun t ht => List.mem_append_right _ ht), AP_guard, and_self, cond_true, cond_false, ↓reduceIte, Bool.false_eq_true, *]

theorem ch_x2 {d : Nat} {q : Nat} {x y : O} : Ch P gl (.x2 d q x y) := by
  intro st K h
  simp only [step] at h
  repeat' split at h
  all_goals first
    | exact h.elim
    | exact h.2.elim
    | exact .set rfl rfl rfl h fun st2 K2 ag hk => by simp only [step, ag.ev (x := x) (fun t ht => List.mem_append_left _ ht), ag.ev (x := y) (fun t ht => List.mem_append_right _ ht), AP_guard, and_self, cond_true, cond_false, ↓reduceIte, Bool.false_eq_true, *]
    | exact .set rfl rfl rfl h.2 fun st2 K2 ag hk => by have h1 := h.1; simp only [step, ag.ev (x := x) (fun t ht => List.mem_append_left _ ht), ag.ev (x := y) (fun t ht => List.mem_append_right _ ht), AP_guard, and_self, cond_true, cond_false, ↓reduceIte, Bool.false_eq_true, *]
    | exact .set rfl rfl rfl h.2.2 fun st2 K2 ag hk => by have h1 := h.1; have h2 := h.2.1; simp only [step, ag.ev (x := x) (fun t ht => List.mem_append_left _ ht), ag.ev (x := y) (fun t ht => List.mem_append_right _ ht), AP_guard, and_self, cond_true, cond_false, ↓reduceIte, Bool.false_eq_true, *]

theorem Agree.bound {i : I} {st st2 : St} (h : Agree i st st2) {x : Option O} {n : Int} (hx : ∀ t, t ∈ oSlots x → t ∈ i.rd) : Vm.bound gl st2 n x = Vm.bound gl st n x := by
  cases x with
  | none => rfl
  | some x => simp only [Vm.bound, h.ev (x := x) hx]

theorem Agree.elems {i : I} {st st2 : St} (h : Agree i st st2) {sz : Nat} : ∀ {xs : List O}, (∀ t, t ∈ lSlots xs → t ∈ i.rd) → Vm.elems gl st2 sz xs = Vm.elems gl st sz xs
  | [], _ => rfl
  | x :: xs, hx => by
    simp only [Vm.elems, h.ev (x := x) (fun t ht => hx t (by simp [lSlots, ht])), h.elems (xs := xs) (fun t ht => hx t (by simp only [lSlots, List.flatMap_cons, List.mem_append]; exact .inr ht))]

theorem Agree.fillP {i : I} {st st2 : St} (h : Agree i st st2) : ∀ {ps : List (Nat × Nat × O)} {cs : List Val}, (∀ t, t ∈ (ps.flatMap fun q => q.2.2.slots) → t ∈ i.rd) → Vm.fillP gl st2 cs ps = Vm.fillP gl st cs ps
  | [], _, _ => rfl
  | (off, n, x) :: ps, cs, hx => by
    simp only [Vm.fillP, h.ev (x := x) (fun t ht => hx t (by simp [ht]))]
    cases (Nat.beq (cellsOf (frz (snap (Vm.ev gl st x)))).length n && Nat.ble (off + n) cs.length && (cellsOf (frz (snap (Vm.ev gl st x)))).all (noL depth)) with
    | true => exact h.fillP fun t ht => hx t (by simp only [List.flatMap_cons, List.mem_append]; exact .inr ht)
    | false => rfl

theorem Agree.map {i : I} {st st2 : St} (h : Agree i st st2) {β : Type} {f : Val → β} : ∀ {xs : List O}, (∀ t, t ∈ lSlots xs → t ∈ i.rd) → (xs.map fun x => f (Vm.ev gl st2 x)) = xs.map fun x => f (Vm.ev gl st x)
  | [], _ => rfl
  | x :: xs, hx => by
    simp only [List.map_cons, h.ev (x := x) (fun t ht => hx t (by simp [lSlots, ht])), h.map (xs := xs) (fun t ht => hx t (by simp only [lSlots, List.flatMap_cons, List.mem_append]; exact .inr ht))]

theorem ch_ss {d : Nat} {x : O} {lo hi : Option O} : Ch P gl (.ss d x lo hi) := by
  intro st K h
  simp only [step] at h
  repeat' split at h
  all_goals first
    | exact h.elim
    | exact .set rfl rfl rfl h.2 fun st2 K2 ag hk => by
        have h1 := h.1
        have e1 := ag.ev (gl := gl) (x := x) (fun t ht => List.mem_append_left _ (List.mem_append_left _ ht))
        have e2 := fun n => ag.bound (gl := gl) (x := lo) (n := n) (fun t ht => List.mem_append_left _ (List.mem_append_right _ ht))
        have e3 := fun n => ag.bound (gl := gl) (x := hi) (n := n) (fun t ht => List.mem_append_right _ ht)
        simp only [step, e1, e2, e3, AP_guard, and_self, *]

theorem ch_sl {d sz : Nat} {x : O} {lo hi mx : Option O} : Ch P gl (.sl d sz x lo hi mx) := by
  intro st K h
  simp only [step] at h
  repeat' split at h
  all_goals first
    | exact h.elim
    | exact .set rfl rfl rfl h.2 fun st2 K2 ag hk => by
        have h1 := h.1
        have e1 := ag.ev (gl := gl) (x := x) (fun t ht => List.mem_append_left _ (List.mem_append_left _ (List.mem_append_left _ ht)))
        have e2 := fun n => ag.bound (gl := gl) (x := lo) (n := n) (fun t ht => List.mem_append_left _ (List.mem_append_left _ (List.mem_append_right _ ht)))
        have e3 := fun n => ag.bound (gl := gl) (x := hi) (n := n) (fun t ht => List.mem_append_left _ (List.mem_append_right _ ht))
        have e4 := fun n => ag.bound (gl := gl) (x := mx) (n := n) (fun t ht => List.mem_append_right _ ht)
        simp only [step, e1, e2, e3, e4, AP_guard, and_self, *]

theorem ch_li {d sz : Nat} {xs : List O} : Ch P gl (.li d sz xs) := by
  intro st K h
  simp only [step] at h
  split at h
  · exact .set rfl rfl rfl h fun st2 K2 ag hk => by simp only [step, ag.elems (gl := gl) (sz := sz) (xs := xs) (fun t ht => ht), *]
  · exact h.elim

theorem ch_bd {d : Nat} {z : List Val} {ps : List (Nat × Nat × O)} : Ch P gl (.bd d z ps) := by
  intro st K h
  simp only [step] at h
  split at h
  · exact .set rfl rfl rfl h fun st2 K2 ag hk => by simp only [step, ag.fillP (gl := gl) (ps := ps) (cs := z) (fun t ht => ht), *]
  · exact h.elim

theorem ch_mf {d f : Nat} {xs ws : List O} : Ch P gl (.mf d f xs ws) := by
  intro st K h
  cases xs with
  | nil => cases ws with
    | nil => exact .set rfl rfl rfl h fun st2 K2 ag hk => hk
    | cons y ys =>
      exact .set rfl rfl rfl h.2 fun st2 K2 ag hk => by
        have h1 := h.1
        simp only [step, ag.map (gl := gl) (f := fun v => frz (snap v)) (xs := []) (fun t ht => List.mem_append_left _ ht), ag.map (gl := gl) (f := fun v => frz (snap v)) (xs := y :: ys) (fun t ht => List.mem_append_right _ ht)]
        exact ⟨h1, hk⟩
  | cons x xs =>
    exact .set rfl rfl rfl h.2 fun st2 K2 ag hk => by
      have h1 := h.1
      simp only [step, ag.map (gl := gl) (f := fun v => frz (snap v)) (xs := x :: xs) (fun t ht => List.mem_append_left _ ht), ag.map (gl := gl) (f := fun v => frz (snap v)) (xs := ws) (fun t ht => List.mem_append_right _ ht)]
      exact ⟨h1, hk⟩

theorem ch_ll {d t off n : Nat} {ag : Bool} {x : O} : Ch P gl (.ll d x t off n ag) := by
  intro st K h
  simp only [step] at h
  split at h
  · exact .set rfl rfl rfl h.2 fun st2 K2 ag' hk => by
      have h1 := h.1
      have e1 := ag'.ev (gl := gl) (x := x) (fun t ht => ht)
      have e2 := ag'.bx t (by simp [I.brd])
      simp only [step, e1, e2, AP_guard, and_self, *]
  · exact h.elim

theorem ch_nq {d kd : Nat} {neg : Bool} {x : O} (hk0 : Nat.beq kd 0 = false) : Ch P gl (.nq d neg kd x) := by
  intro st K h
  match kd, hk0 with
  | 0, hk0 => simp at hk0
  | 1, _ | 2, _ | 3, _ | 4, _ =>
    simp only [step] at h
    repeat' split at h
    all_goals first
      | exact h.elim
      | exact .set rfl rfl rfl h fun st2 K2 ag hk => by simp only [step, ag.ev (x := x) (fun t ht => ht), *]
  | n + 5, _ => exact h.elim

theorem ch_cp {d : Option Nat} {f : Nat} {xs : List O} : Ch P gl (.cp d f xs) := by
  intro st K h
  simp only [step] at h
  obtain ⟨h1, r, s', h2, h3, h4⟩ := h
  have re : ∀ st2 (K2 : St → Prop), Agree (.cp d f xs) st st2 → K2 (st2.setO d r) → step (AP P gl) gl (.cp d f xs) st2 K2 := fun st2 K2 ag hk => by
    simp only [step, ag.map (gl := gl) (f := fun v => frz (snap v)) (xs := xs) (fun t ht => ht)]
    exact ⟨h1, r, s', h2, h3, hk⟩
  cases d with
  | some d => exact .set rfl rfl rfl h4 re
  | none => exact ⟨st, h4, fun _ _ => rfl, fun _ _ => rfl, fun _ => rfl, fun st2 K2 ag hk => re st2 K2 ag hk⟩

theorem ch_bad {d : Option Nat} : Ch P gl (.bad d) := by
  intro st K h
  exact h.elim

theorem ch_nop {d : Option Nat} : Ch P gl (.nop d) := by
  intro st K h
  cases d with
  | none => exact ⟨_, h, fun _ _ => rfl, fun _ _ => rfl, fun _ => rfl, fun st2 K2 ag hk => by
      have : mix (.nop none) st2 (st.setO none .undef) = st2.setO none .undef := mix_eq (fun t => by simp [I.wr, I.hw, I.kl, I.dst, St.setO]) (fun t => by simp [I.bwr, St.setO]) (by simp [I.ws, St.setO])
      rw [this] at hk
      exact hk⟩
  | some d => exact .set rfl rfl rfl h fun st2 K2 ag hk => hk

theorem ch_apx {d s z i sz bnd : Nat} {x : O} : Ch P gl (.apx d s z i x sz bnd) := by
  intro st K h
  simp only [step] at h
  split at h
  · rename_i sz1 l sz2 zd k n dx e1 e2 e3 e4
    refine ⟨_, h.2, fun t ht => ?_, fun _ _ => rfl, fun _ => rfl, fun st2 K2 ag hk => ?_⟩
    · simp only [I.wr, I.hw, I.kl, I.dst, Option.toList_some, List.append_nil, List.cons_append, List.nil_append, List.mem_cons, List.not_mem_nil, or_false, not_or] at ht
      simp only [St.set, upd_eq, ht.1, ht.2, if_false]
    · have f1 := ag.tm s (by simp [I.rd])
      have f2 := ag.tm z (by simp [I.rd])
      have f3 := ag.tm i (by simp [I.rd])
      have f4 := ag.ev (gl := gl) (x := x) (fun t ht => by simp [I.rd, ht])
      have : mix (.apx d s z i x sz bnd) st2 ((st.set s .undef).set d (.own sz (l ++ [dx]))) = (st2.set s .undef).set d (.own sz (l ++ [dx])) := by
        refine mix_eq (fun t => ?_) (fun t => rfl) rfl
        simp only [I.wr, I.hw, I.kl, I.dst, Option.toList_some, List.append_nil, List.cons_append, List.nil_append, List.mem_cons, List.not_mem_nil, or_false, St.set, upd_eq]
        by_cases h1 : t = d
        · simp [h1]
        · by_cases h2 : t = s <;> simp [h1, h2]
      rw [this] at hk
      have h1 := h.1
      simp only [step, f1, f2, f3, f4, e1, e2, e3, e4, AP_guard]
      exact ⟨h1, hk⟩
  · exact h.elim

end
end Go.Vm
end

section
/- What an instruction looks at, and what it writes: those that write more than their result. Conditions: none. -/
set_option linter.unusedSimpArgs false
namespace Go.Vm

section
variable {P : Program} {gl : Nat → List D}

theorem kill_bx (st : St) (x : O) : (kill st x).bx = st.bx := by
  rcases kill_cases st x with ⟨h, _⟩ | ⟨s, _, h, _⟩ <;> rw [h] <;> rfl
theorem kill_s (st : St) (x : O) : (kill st x).s = st.s := by
  rcases kill_cases st x with ⟨h, _⟩ | ⟨s, _, h, _⟩ <;> rw [h] <;> rfl
theorem kill_out {st : St} {x : O} {t : Nat} (h : t ∉ x.slots) : (kill st x).tm t = st.tm t := by
  rcases kill_cases st x with ⟨h', _⟩ | ⟨s, rfl, h', _⟩
  · rw [h']
  · rw [h']; simp only [O.slots, List.mem_singleton] at h; simp only [St.set, upd_eq, h, if_false]
theorem kill_in {st st2 : St} {x : O} {t : Nat} (h : t ∈ x.slots) (ht : st2.tm t = st.tm t) : (kill st2 x).tm t = (kill st x).tm t := by
  cases x with
  | t s =>
    simp only [O.slots, List.mem_singleton] at h
    subst h
    simp only [kill]
    rw [ht]
    cases st.tm t <;> simp only [ht, St.set, upd_self]
  | c v => simp [O.slots] at h
  | g n => simp [O.slots] at h
theorem kill_mix {st st2 : St} {x : O} {t : Nat} (ht : t ∈ x.slots → st2.tm t = st.tm t) : (if t ∈ x.slots then (kill st x).tm t else st2.tm t) = (kill st2 x).tm t := by
  split
  · rename_i h; exact (kill_in h (ht h)).symm
  · rename_i h; exact (kill_out h).symm

theorem ch_tk {d s : Nat} : Ch P gl (.tk d s) := by
  intro st K h
  refine ⟨_, h, fun t ht => ?_, fun _ _ => rfl, fun _ => rfl, fun st2 K2 ag hk => ?_⟩
  · simp only [I.wr, I.hw, I.kl, I.dst, Option.toList_some, List.cons_append, List.nil_append, List.mem_cons, List.not_mem_nil, or_false, not_or] at ht
    simp only [St.set, upd_eq, ht.1, ht.2, if_false]
  · have e := ag.tm s (by simp [I.rd])
    have : mix (.tk d s) st2 ((st.set s .undef).set d (st.tm s)) = (st2.set s .undef).set d (st2.tm s) := by
      refine mix_eq (fun t => ?_) (fun t => rfl) rfl
      simp only [I.wr, I.hw, I.kl, I.dst, Option.toList_some, List.cons_append, List.nil_append, List.mem_cons, List.not_mem_nil, or_false, St.set, upd_eq, e]
      by_cases h1 : t = d
      · simp [h1]
      · by_cases h2 : t = s <;> simp [h1, h2]
    rw [this] at hk
    exact hk

theorem ch_asg {d : Nat} {x : O} : Ch P gl (.asg d x) := by
  intro st K h
  refine ⟨_, h, fun t ht => ?_, fun _ _ => by simp [St.set, kill_bx], fun _ => by simp [St.set, kill_s], fun st2 K2 ag hk => ?_⟩
  · simp only [I.wr, I.hw, I.kl, I.dst, Option.toList_some, List.cons_append, List.nil_append, List.mem_cons, not_or] at ht
    simp only [St.set, upd_eq, ht.1, if_false]
    exact kill_out ht.2
  · have e := ag.ev (gl := gl) (x := x) (fun t ht => ht)
    have : mix (.asg d x) st2 ((kill st x).set d (ev gl st x)) = (kill st2 x).set d (ev gl st2 x) := by
      refine mix_eq (fun t => ?_) (fun t => by simp [St.set, kill_bx, I.bwr]) (by simp [St.set, kill_s, I.ws])
      simp only [I.wr, I.hw, I.kl, I.dst, Option.toList_some, List.cons_append, List.nil_append, List.mem_cons, St.set, upd_eq, e]
      by_cases h1 : t = d
      · simp [h1]
      · simp only [h1, false_or, if_false]
        exact kill_mix (ag.tm t)
    rw [this] at hk
    exact hk

theorem ch_la {d : Nat} {z : List Val} : Ch P gl (.la d z) := by
  intro st K h
  simp only [step] at h
  split at h
  · rename_i e1
    refine ⟨_, h, fun t ht => ?_, fun t ht => ?_, fun _ => rfl, fun st2 K2 ag hk => ?_⟩
    · simp only [I.wr, I.hw, I.kl, I.dst, Option.toList_some, List.append_nil, List.mem_cons, List.not_mem_nil, or_false] at ht
      simp only [St.set, St.setB, upd_eq, ht, if_false]
    · simp only [I.bwr, List.mem_cons, List.not_mem_nil, or_false] at ht
      simp only [St.set, St.setB, upd_eq, ht, if_false]
    · have e := ag.bx d (by simp [I.brd])
      have : mix (.la d z) st2 ((st.setB d z).set d (.lref d 0)) = (st2.setB d z).set d (.lref d 0) := by
        refine mix_eq (fun t => ?_) (fun t => ?_) rfl
        · simp only [I.wr, I.hw, I.kl, I.dst, Option.toList_some, List.append_nil, List.mem_cons, List.not_mem_nil, or_false, St.set, St.setB, upd_eq]
          split <;> rfl
        · simp only [I.bwr, List.mem_cons, List.not_mem_nil, or_false, St.set, St.setB, upd_eq]
          split <;> rfl
      rw [this] at hk
      simp only [step, e, e1]
      exact hk
  · exact h.elim

theorem ch_lb {d n : Nat} {x : O} : Ch P gl (.lb d x n) := by
  intro st K h
  simp only [step] at h
  split at h
  · rename_i e1
    refine ⟨_, h.2, fun t ht => ?_, fun t ht => ?_, fun _ => rfl, fun st2 K2 ag hk => ?_⟩
    · simp only [I.wr, I.hw, I.kl, I.dst, Option.toList_some, List.append_nil, List.mem_cons, List.not_mem_nil, or_false] at ht
      simp only [St.set, St.setB, upd_eq, ht, if_false]
    · simp only [I.bwr, List.mem_cons, List.not_mem_nil, or_false] at ht
      simp only [St.set, St.setB, upd_eq, ht, if_false]
    · have e := ag.bx d (by simp [I.brd])
      have e' := ag.ev (gl := gl) (x := x) (fun t ht => ht)
      have : mix (.lb d x n) st2 ((st.setB d (cellsOf (snapN (ev gl st x)))).set d (.lref d 0)) = (st2.setB d (cellsOf (snapN (ev gl st x)))).set d (.lref d 0) := by
        refine mix_eq (fun t => ?_) (fun t => ?_) rfl
        · simp only [I.wr, I.hw, I.kl, I.dst, Option.toList_some, List.append_nil, List.mem_cons, List.not_mem_nil, or_false, St.set, St.setB, upd_eq]
          split <;> rfl
        · simp only [I.bwr, List.mem_cons, List.not_mem_nil, or_false, St.set, St.setB, upd_eq]
          split <;> rfl
      rw [this] at hk
      have h1 := h.1
      simp only [step, e, e', e1]
      exact ⟨h1, hk⟩
  · exact h.elim

end
end Go.Vm
end

section
/- Regions that draw their order: any order comes to what the text's order comes to. Conditions: none. -/
set_option linter.unusedSimpArgs false
namespace Go.Vm

section
variable {P : Program} {gl : Nat → List D}

theorem ch_lt {d t off : Nat} {x : O} : Ch P gl (.lt d x t off) := by
  intro st K h
  simp only [step] at h
  split at h
  · rename_i t' off' cs e1 e2
    refine ⟨_, h.2, fun u hu => ?_, fun u hu => ?_, fun _ => rfl, fun st2 K2 ag hk => ?_⟩
    · simp only [I.wr, I.hw, I.kl, I.dst, Option.toList_some, List.append_nil, List.mem_cons, List.not_mem_nil, or_false] at hu
      simp only [St.set, St.setB, upd_eq, hu, if_false]
    · simp only [I.bwr, List.mem_cons, List.not_mem_nil, or_false] at hu
      simp only [St.set, St.setB, upd_eq, hu, if_false]
    · have e := ag.bx t (by simp [I.brd])
      have e' := ag.ev (gl := gl) (x := x) (fun t ht => ht)
      have : mix (.lt d x t off) st2 ((st.setB t (cs.set off .undef)).set d (cs.getD off .undef)) = (st2.setB t (cs.set off .undef)).set d (cs.getD off .undef) := by
        refine mix_eq (fun u => ?_) (fun u => ?_) rfl
        · simp only [I.wr, I.hw, I.kl, I.dst, Option.toList_some, List.append_nil, List.mem_cons, List.not_mem_nil, or_false, St.set, St.setB, upd_eq]
          split <;> rfl
        · simp only [I.bwr, List.mem_cons, List.not_mem_nil, or_false, St.set, St.setB, upd_eq]
          split <;> rfl
      rw [this] at hk
      have h1 := h.1
      simp only [step, e, e', e1, e2]
      exact ⟨h1, hk⟩
  · exact h.elim

theorem ch_ls {t off n : Nat} {x y : O} : Ch P gl (.ls x t off y n) := by
  intro st K h
  simp only [step] at h
  split at h
  · rename_i t' off' cs e1 e2
    refine ⟨_, h.2, fun u hu => ?_, fun u hu => ?_, fun _ => by simp [St.setB, kill_s], fun st2 K2 ag hk => ?_⟩
    · simp only [I.wr, I.hw, I.kl, I.dst, Option.toList_none, List.nil_append] at hu
      simp only [St.setB]
      exact kill_out hu
    · simp only [I.bwr, List.mem_cons, List.not_mem_nil, or_false] at hu
      simp only [St.setB, upd_eq, hu, if_false, kill_bx]
    · have e := ag.bx t (by simp [I.brd])
      have e' := ag.ev (gl := gl) (x := x) (fun t ht => List.mem_append_left _ ht)
      have e'' := ag.ev (gl := gl) (x := y) (fun t ht => List.mem_append_right _ ht)
      have : mix (.ls x t off y n) st2 ((kill st y).setB t (putCells cs off (cellsOf (ev gl st y)))) = (kill st2 y).setB t (putCells cs off (cellsOf (ev gl st y))) := by
        refine mix_eq (fun u => ?_) (fun u => ?_) (by simp [St.setB, kill_s, I.ws])
        · simp only [I.wr, I.hw, I.kl, I.dst, Option.toList_none, List.nil_append, St.setB]
          exact kill_mix fun hu => ag.tm u (List.mem_append_right _ hu)
        · simp only [I.bwr, List.mem_cons, List.not_mem_nil, or_false, St.set, St.setB, upd_eq, kill_bx]
          split <;> rfl
      rw [this] at hk
      have h1 := h.1
      simp only [step, e, e', e'', e1, e2]
      exact ⟨h1, hk⟩
  · exact h.elim

/-- All that do not look at the store. -/
theorem ch_ns {i : I} (h : twoWays i = false) (hr : i.rs = false) : Ch P gl i := by
  cases i with
  | mv => exact ch_mv
  | tk => exact ch_tk
  | asg => exact ch_asg
  | pk => exact ch_pk
  | la => exact ch_la
  | lb => exact ch_lb
  | bd => exact ch_bd
  | li => exact ch_li
  | ll => exact ch_ll
  | lt => exact ch_lt
  | ls => exact ch_ls
  | nc => exact ch_nc
  | bi => exact ch_bi
  | eq => exact ch_eq
  | un => exact ch_un
  | ci => exact ch_ci
  | cs => exact ch_cs
  | sb => exact ch_sb
  | bs => exact ch_bs
  | fa => exact ch_fa
  | fd => exact ch_fd
  | ia => exact ch_ia
  | aa => exact ch_aa
  | ix => exact ch_ix
  | ss => exact ch_ss
  | sl => exact ch_sl
  | em => exact ch_em
  | mf => exact ch_mf
  | ln => exact ch_ln
  | ex => exact ch_ex
  | mn => exact ch_mn
  | x2 => exact ch_x2
  | nq => exact ch_nq h
  | cp => exact ch_cp
  | bad => exact ch_bad
  | nop => exact ch_nop
  | apx => exact ch_apx
  | ax => exact ch_ax
  | _ => simp [I.rs] at hr

end
end Go.Vm
end

section
/- What a run of an instruction reads of the store, and what it writes. Conditions: none. -/
set_option linter.unusedSimpArgs false
namespace Go.Vm

/-- A write to the store. -/
inductive SW where
  | c (i off : Nat) (v : Val)
  | o (i : Nat) (ob : Ob)
  | n (ob : Ob)

def SW.app : SW → Store → Store
  | .c i off v, s => match s.getD i .dead with
    | .box cs => s.set i (.box (cs.set off v))
    | _ => s
  | .o i ob, s => s.set i ob
  | .n ob, s => s ++ [ob]

def apps : List SW → Store → Store
  | [], s => s
  | u :: ws, s => apps ws (u.app s)

/-- What is read (cells; whole objects; how many there are), what is written, which slots are emptied. -/
structure Eff where
  rd : List (Nat × Nat × List Val) := []
  ro : List (Nat × Ob) := []
  len : Option Nat := none
  ws : List SW := []
  k : List Nat := []

def readsAt (s : Store) (q : Nat × Nat × List Val) : Prop := ∃ cs, s[q.1]? = some (.box cs) ∧ q.2.1 + q.2.2.length ≤ cs.length ∧ (cs.drop q.2.1).take q.2.2.length = q.2.2

structure AgreeS (E : Eff) (s : Store) : Prop where
  rd : ∀ q, q ∈ E.rd → readsAt s q
  ro : ∀ q, q ∈ E.ro → s[q.1]? = some q.2
  len : ∀ n, E.len = some n → s.length = n

/-- Where a write goes is told to be there. -/
def SW.at (E : Eff) : SW → Prop
  | .c i off _ => ∃ q, q ∈ E.rd ∧ q.1 = i ∧ q.2.1 ≤ off ∧ off < q.2.1 + q.2.2.length
  | .o i _ => ∃ q, q ∈ E.ro ∧ q.1 = i
  | .n _ => E.len ≠ none

def SW.idx (s : Store) : SW → Prop
  | .c i _ _ => i < s.length
  | .o i _ => i < s.length
  | .n _ => True

theorem app_length (u : SW) (s : Store) : s.length ≤ (u.app s).length := by
  cases u with
  | c i off v => simp only [SW.app]; split <;> simp
  | o i ob => simp [SW.app]
  | n ob => simp [SW.app]

theorem idx_app {u u' : SW} {s : Store} (h : u.idx s) : u.idx (u'.app s) := by
  have := app_length u' s
  cases u with
  | c i off v => exact Nat.lt_of_lt_of_le h this
  | o i ob => exact Nat.lt_of_lt_of_le h this
  | n ob => trivial

theorem idx_of {E : Eff} {u : SW} {s : Store} (h : u.at E) (ag : AgreeS E s) : u.idx s := by
  cases u with
  | c i off v =>
    obtain ⟨q, hq, rfl, _⟩ := h
    obtain ⟨cs, h1, _⟩ := ag.rd q hq
    exact (List.getElem?_eq_some_iff.1 h1).1
  | o i ob =>
    obtain ⟨q, hq, rfl⟩ := h
    exact (List.getElem?_eq_some_iff.1 (ag.ro q hq)).1
  | n ob => trivial

/-- Two writes that have nothing to do with each other. -/
def SW.ind : SW → SW → Prop
  | .c i off _, .c j off' _ => i ≠ j ∨ off ≠ off'
  | .c i _ _, .o j _ => i ≠ j
  | .o i _, .c j _ _ => i ≠ j
  | .o i _, .o j _ => i ≠ j
  | .n _, .n _ => False
  | _, _ => True

theorem getD_set_ne {s : Store} {i j : Nat} {ob : Ob} (h : i ≠ j) : (s.set i ob).getD j .dead = s.getD j .dead := by
  rw [List.getD_eq_getElem?_getD, List.getD_eq_getElem?_getD, List.getElem?_set_ne h]

theorem getD_set_eq {s : Store} {i : Nat} {ob : Ob} (h : i < s.length) : (s.set i ob).getD i .dead = ob := by
  rw [List.getD_eq_getElem?_getD, List.getElem?_set_self h]; rfl

theorem getD_snoc {s : Store} {i : Nat} {ob : Ob} (h : i < s.length) : (s ++ [ob]).getD i .dead = s.getD i .dead := by
  rw [List.getD_eq_getElem?_getD, List.getD_eq_getElem?_getD, List.getElem?_append_left h]

theorem app_comm {u u' : SW} {s : Store} (h : u.ind u') (h1 : u.idx s) (h2 : u'.idx s) : u.app (u'.app s) = u'.app (u.app s) := by
  have cc : ∀ (i off : Nat) (v : Val) (j off' : Nat) (v' : Val), i ≠ j ∨ off ≠ off' → i < s.length → j < s.length → (SW.c i off v).app ((SW.c j off' v').app s) = (SW.c j off' v').app ((SW.c i off v).app s) := by
    intro i off v j off' v' h hi hj
    by_cases hij : i = j
    · subst hij
      have ho : off ≠ off' := by rcases h with h | h; exact absurd rfl h; exact h
      simp only [SW.app]
      cases hb : s.getD i .dead with
      | box cs =>
        simp only [getD_set_eq hi, List.set_set]
        rw [List.set_comm _ _ (Ne.symm ho)]
      | _ => simp only [hb]
    · simp only [SW.app]
      cases hb : s.getD i .dead <;> cases hb' : s.getD j .dead <;> simp only [hb, hb', getD_set_ne hij, getD_set_ne (Ne.symm hij)]
      rw [List.set_comm _ _ (Ne.symm hij)]
  have co : ∀ (i off : Nat) (v : Val) (j : Nat) (ob : Ob), i ≠ j → (SW.c i off v).app ((SW.o j ob).app s) = (SW.o j ob).app ((SW.c i off v).app s) := by
    intro i off v j ob hij
    simp only [SW.app, getD_set_ne (Ne.symm hij)]
    cases hb : s.getD i .dead <;> simp only
    rw [List.set_comm _ _ (Ne.symm hij)]
  have cn : ∀ (i off : Nat) (v : Val) (ob : Ob), i < s.length → (SW.c i off v).app ((SW.n ob).app s) = (SW.n ob).app ((SW.c i off v).app s) := by
    intro i off v ob hi
    simp only [SW.app, getD_snoc hi]
    cases hb : s.getD i .dead <;> simp only
    rw [List.set_append_left _ _ hi]
  have on : ∀ (i : Nat) (o1 ob : Ob), i < s.length → (SW.o i o1).app ((SW.n ob).app s) = (SW.n ob).app ((SW.o i o1).app s) := by
    intro i o1 ob hi
    simp only [SW.app]
    rw [List.set_append_left _ _ hi]
  cases u with
  | c i off v => cases u' with
    | c j off' v' => exact cc i off v j off' v' h h1 h2
    | o j ob => exact co i off v j ob h
    | n ob => exact cn i off v ob h1
  | o i o1 => cases u' with
    | c j off' v' => exact (co j off' v' i o1 (Ne.symm h)).symm
    | o j ob => simp only [SW.app]; rw [List.set_comm _ _ (Ne.symm h)]
    | n ob => exact on i o1 ob h1
  | n o1 => cases u' with
    | c j off' v' => exact (cn j off' v' o1 h2).symm
    | o j ob => exact (on j ob o1 h2).symm
    | n ob => exact h.elim

theorem apps_one {u : SW} : ∀ {ws : List SW} {s : Store}, (∀ v, v ∈ ws → u.ind v) → u.idx s → (∀ v, v ∈ ws → v.idx s) → apps ws (u.app s) = u.app (apps ws s)
  | [], _, _, _, _ => rfl
  | v :: ws, s, h, h1, h2 => by
    simp only [apps]
    rw [← app_comm (h v (by simp)) h1 (h2 v (by simp))]
    exact apps_one (fun w hw => h w (by simp [hw])) (idx_app h1) (fun w hw => idx_app (h2 w (by simp [hw])))

theorem apps_comm : ∀ {us ws : List SW} {s : Store}, (∀ u, u ∈ us → ∀ v, v ∈ ws → u.ind v) → (∀ u, u ∈ us → u.idx s) → (∀ v, v ∈ ws → v.idx s) → apps us (apps ws s) = apps ws (apps us s)
  | [], _, _, _, _, _ => rfl
  | u :: us, ws, s, h, h1, h2 => by
    simp only [apps]
    rw [← apps_one (h u (by simp)) (h1 u (by simp)) h2]
    exact apps_comm (fun w hw => h w (by simp [hw])) (fun w hw => idx_app (h1 w (by simp [hw]))) (fun v hv => idx_app (h2 v hv))

/-- A write leaves what another one reads. -/
def SW.safe (E : Eff) : SW → Prop
  | .c i off _ => (∀ q, q ∈ E.rd → q.1 ≠ i ∨ off < q.2.1 ∨ q.2.1 + q.2.2.length ≤ off) ∧ ∀ q, q ∈ E.ro → q.1 ≠ i
  | .o i ob => (∀ q, q ∈ E.rd → q.1 ≠ i ∨ ∃ cs, ob = .box cs ∧ q.2.1 + q.2.2.length ≤ cs.length ∧ (cs.drop q.2.1).take q.2.2.length = q.2.2) ∧ ∀ q, q ∈ E.ro → q.1 ≠ i
  | .n _ => E.len = none

theorem take_drop_set {cs : List Val} {off n j : Nat} {v : Val} (h : j < off ∨ off + n ≤ j) : ((cs.set j v).drop off).take n = (cs.drop off).take n := by
  apply List.ext_getElem?
  intro m
  rw [List.getElem?_take, List.getElem?_take]
  split
  · rw [List.getElem?_drop, List.getElem?_drop, List.getElem?_set_ne (by omega)]
  · rfl

theorem safe_app {E : Eff} {u : SW} {s : Store} (h : u.safe E) (ag : AgreeS E s) : AgreeS E (u.app s) := by
  cases u with
  | c i off v =>
    simp only [SW.app]
    split
    · rename_i cs hb
      have hi : i < s.length := by
        rcases Nat.lt_or_ge i s.length with hl | hl
        · exact hl
        · rw [List.getD_eq_getElem?_getD, List.getElem?_eq_none hl] at hb; simp at hb
      have hs : s[i]? = some (.box cs) := by
        rw [List.getD_eq_getElem?_getD, List.getElem?_eq_getElem hi] at hb
        rw [List.getElem?_eq_getElem hi]; simpa using hb
      refine ⟨fun q hq => ?_, fun q hq => ?_, fun n hn => by rw [List.length_set]; exact ag.len n hn⟩
      · obtain ⟨cs', h1, h2, h3⟩ := ag.rd q hq
        by_cases hqi : q.1 = i
        · have hd := (h.1 q hq).resolve_left (fun hne => hne hqi)
          rw [hqi] at h1
          rw [hs] at h1
          simp only [Option.some.injEq, Ob.box.injEq] at h1
          subst h1
          refine ⟨cs.set off v, by rw [hqi, List.getElem?_set_self hi], by simpa using h2, ?_⟩
          rw [take_drop_set hd]; exact h3
        · exact ⟨cs', by rw [List.getElem?_set_ne (Ne.symm hqi)]; exact h1, h2, h3⟩
      · rw [List.getElem?_set_ne (Ne.symm (h.2 q hq))]; exact ag.ro q hq
    · exact ag
  | o i ob =>
    simp only [SW.app]
    refine ⟨fun q hq => ?_, fun q hq => ?_, fun n hn => by rw [List.length_set]; exact ag.len n hn⟩
    · obtain ⟨cs', h1, h2, h3⟩ := ag.rd q hq
      by_cases hqi : q.1 = i
      · obtain ⟨cs, rfl, k1, k2⟩ := (h.1 q hq).resolve_left (fun hne => hne hqi)
        have hi : i < s.length := by rw [← hqi]; exact (List.getElem?_eq_some_iff.1 h1).1
        exact ⟨cs, by rw [hqi, List.getElem?_set_self hi], k1, k2⟩
      · exact ⟨cs', by rw [List.getElem?_set_ne (Ne.symm hqi)]; exact h1, h2, h3⟩
    · rw [List.getElem?_set_ne (Ne.symm (h.2 q hq))]; exact ag.ro q hq
  | n ob =>
    simp only [SW.app]
    refine ⟨fun q hq => ?_, fun q hq => ?_, fun n hn => by rw [show E.len = none from h] at hn; simp at hn⟩
    · obtain ⟨cs', h1, h2, h3⟩ := ag.rd q hq
      have hi := (List.getElem?_eq_some_iff.1 h1).1
      exact ⟨cs', by rw [List.getElem?_append_left hi]; exact h1, h2, h3⟩
    · have hi := (List.getElem?_eq_some_iff.1 (ag.ro q hq)).1
      rw [List.getElem?_append_left hi]; exact ag.ro q hq

theorem safe_apps {E : Eff} : ∀ {ws : List SW} {s : Store}, (∀ u, u ∈ ws → u.safe E) → AgreeS E s → AgreeS E (apps ws s)
  | [], _, _, ag => ag
  | u :: ws, s, h, ag => by
    simp only [apps]
    exact safe_apps (s := u.app s) (fun v hv => h v (by simp [hv])) (safe_app (h u (by simp)) ag)

/-- What one reads is there, and as it is, before the other one's run too. -/
structure Back (X Y : Eff) : Prop where
  old : ∀ i ob, SW.o i ob ∈ Y.ws → ∀ q, q ∈ X.rd → q.1 = i → ∃ cs, (i, Ob.box cs) ∈ Y.ro ∧ q.2.1 + q.2.2.length ≤ cs.length ∧ (cs.drop q.2.1).take q.2.2.length = q.2.2
  len : ∀ n, Y.len = some n → (∀ q, q ∈ X.rd → q.1 < n) ∧ (∀ q, q ∈ X.ro → q.1 < n) ∧ X.len = none

/-- Two runs that may change places, as far as the store goes. -/
structure IndE (X Y : Eff) : Prop where
  xy : ∀ u, u ∈ Y.ws → u.safe X
  yx : ∀ u, u ∈ X.ws → u.safe Y
  ww : ∀ u, u ∈ X.ws → ∀ v, v ∈ Y.ws → u.ind v
  bxy : Back X Y
  byx : Back Y X

/-- Where no write goes to an object as a whole, none to these cells, nothing is otherwise. -/
theorem apps_rd {i off n : Nat} {l : List Val} (hl : l.length = n) : ∀ {ws : List SW} {s : Store}, i < s.length → (∀ ob, SW.o i ob ∉ ws) → (∀ j v, SW.c i j v ∈ ws → j < off ∨ off + n ≤ j) → readsAt (apps ws s) (i, off, l) → readsAt s (i, off, l)
  | [], _, _, _, _, h => h
  | u :: ws, s, hi, ho, hc, h => by
    have h' := apps_rd hl (ws := ws) (s := u.app s) (Nat.lt_of_lt_of_le hi (app_length u s)) (fun ob hm => ho ob (by simp [hm])) (fun j v hm => hc j v (by simp [hm])) h
    obtain ⟨cs', h1, h2, h3⟩ := h'
    cases u with
    | n ob =>
      simp only [SW.app] at h1
      rw [List.getElem?_append_left hi] at h1
      exact ⟨cs', h1, h2, h3⟩
    | o j ob =>
      simp only [SW.app] at h1
      by_cases hj : j = i
      · subst hj; exact absurd (by simp) (ho ob)
      · rw [List.getElem?_set_ne hj] at h1
        exact ⟨cs', h1, h2, h3⟩
    | c j k v =>
      simp only [SW.app] at h1
      split at h1
      · rename_i cs hb
        by_cases hj : j = i
        · subst hj
          rw [List.getElem?_set_self hi] at h1
          simp only [Option.some.injEq, Ob.box.injEq] at h1
          subst h1
          have hk := hc k v (by simp)
          simp only [List.length_set] at h2
          have e : s[j]? = some (.box cs) := by
            rw [List.getD_eq_getElem?_getD, List.getElem?_eq_getElem hi] at hb
            rw [List.getElem?_eq_getElem hi]; simpa using hb
          refine ⟨cs, e, h2, ?_⟩
          simp only at h3 ⊢
          rw [hl] at h3 ⊢
          rw [take_drop_set hk] at h3; exact h3
        · rw [List.getElem?_set_ne hj] at h1
          exact ⟨cs', h1, h2, h3⟩
      · exact ⟨cs', h1, h2, h3⟩

theorem apps_ro {i : Nat} {ob : Ob} : ∀ {ws : List SW} {s : Store}, i < s.length → (∀ ob, SW.o i ob ∉ ws) → (∀ j v, SW.c i j v ∉ ws) → (apps ws s)[i]? = some ob → s[i]? = some ob
  | [], _, _, _, _, h => h
  | u :: ws, s, hi, ho, hc, h => by
    have h1 := apps_ro (ws := ws) (s := u.app s) (Nat.lt_of_lt_of_le hi (app_length u s)) (fun ob hm => ho ob (by simp [hm])) (fun j v hm => hc j v (by simp [hm])) h
    cases u with
    | n ob =>
      simp only [SW.app] at h1
      rwa [List.getElem?_append_left hi] at h1
    | o j ob =>
      simp only [SW.app] at h1
      by_cases hj : j = i
      · subst hj; exact absurd (by simp) (ho ob)
      · rwa [List.getElem?_set_ne hj] at h1
    | c j k v =>
      simp only [SW.app] at h1
      split at h1
      · by_cases hj : j = i
        · subst hj; exact absurd (by simp) (hc k v)
        · rwa [List.getElem?_set_ne hj] at h1
      · exact h1

theorem apps_len_ge : ∀ (ws : List SW) (s : Store), s.length ≤ (apps ws s).length
  | [], _ => Nat.le_refl _
  | u :: ws, s => Nat.le_trans (app_length u s) (apps_len_ge ws _)

theorem apps_len_eq : ∀ {ws : List SW} {s : Store}, (∀ ob, SW.n ob ∉ ws) → (apps ws s).length = s.length
  | [], _, _ => rfl
  | u :: ws, s, h => by
    have := apps_len_eq (ws := ws) (s := u.app s) fun ob hm => h ob (by simp [hm])
    show (apps ws (u.app s)).length = _
    rw [this]
    cases u with
    | n ob => exact absurd (by simp) (h ob)
    | o j ob => simp [SW.app]
    | c j k v => simp only [SW.app]; split <;> simp

/-- What holds behind the other one's writes held ahead of them. -/
theorem agree_back {X Y : Eff} (h : ∀ u, u ∈ Y.ws → u.safe X) (hb : Back X Y) (hat : ∀ u, u ∈ Y.ws → u.at Y) {s : Store} (hy : AgreeS Y s) (hx : AgreeS X (apps Y.ws s)) : AgreeS X s := by
  -- the other one makes objects only where its number is told
  have hlt : ∀ {i : Nat}, (∀ n, Y.len = some n → i < n) → i < (apps Y.ws s).length → i < s.length := by
    intro i h1 h2
    cases hl : Y.len with
    | none =>
      rwa [apps_len_eq (fun ob hm => (hat _ hm) hl)] at h2
    | some n => rw [hy.len n hl]; exact h1 n hl
  refine ⟨fun q hq => ?_, fun q hq => ?_, fun n hn => ?_⟩
  · have h1 := hx.rd q hq
    have hi : q.1 < s.length := by
      obtain ⟨cs, h2, _⟩ := h1
      exact hlt (fun n hl => (hb.len n hl).1 q hq) (List.getElem?_eq_some_iff.1 h2).1
    by_cases ho : ∃ ob, SW.o q.1 ob ∈ Y.ws
    · obtain ⟨ob, ho⟩ := ho
      obtain ⟨cs, k1, k2, k3⟩ := hb.old q.1 ob ho q hq rfl
      exact ⟨cs, hy.ro _ k1, k2, k3⟩
    · obtain ⟨i, off, l⟩ := q
      exact apps_rd rfl hi (fun ob hm => ho ⟨ob, hm⟩) (fun j v hm => ((h _ hm).1 _ hq).resolve_left (fun e => e rfl)) h1
  · have h1 := hx.ro q hq
    have hi : q.1 < s.length := hlt (fun n hl => (hb.len n hl).2.1 q hq) (List.getElem?_eq_some_iff.1 h1).1
    exact apps_ro hi (fun ob hm => (h _ hm).2 q hq rfl) (fun j v hm => (h _ hm).2 q hq rfl) h1
  · have h1 := hx.len n hn
    rw [← h1]
    refine (apps_len_eq fun ob hm => ?_).symm
    have := h _ hm
    rw [show X.len = none from this] at hn; simp at hn

mutual
theorem eqD_eq : ∀ {a b : D}, eqD a b = true → a = b
  | .bool a, b, h => by cases b <;> simp [eqD] at h; rw [h]
  | .int k a, b, h => by cases b <;> simp [eqD] at h; rw [h.1, h.2]
  | .str a, b, h => by cases b <;> simp [eqD] at h; rw [h]
  | .list z a, b, h => by
    cases b <;> simp [eqD] at h
    rw [h.1, eqDs_eq h.2]
  | .agg a, b, h => by
    cases b <;> simp [eqD] at h
    rw [eqDs_eq h]
  | .nilp, b, h => by cases b <;> simp [eqD] at h; rfl
  | .nilm, b, h => by cases b <;> simp [eqD] at h; rfl
  | .nilf, b, h => by cases b <;> simp [eqD] at h; rfl
  | .nili, b, h => by cases b <;> simp [eqD] at h; rfl
  | .fn a, b, h => by cases b <;> simp [eqD] at h; rw [h]
  | .iptr a n, b, h => by
    cases b <;> simp [eqD] at h
    rw [eqDs_eq h.1, h.2]
  | .iface t x, b, h => by
    cases b <;> simp [eqD] at h
    rw [h.1, eqD_eq h.2]
  | .imap a c, b, h => by cases b <;> simp [eqD] at h
  | .anyi, b, h => by cases b <;> simp [eqD] at h
theorem eqDs_eq : ∀ {a b : List D}, eqDs a b = true → a = b
  | [], [], _ => rfl
  | [], _ :: _, h => by simp [eqDs] at h
  | _ :: _, [], h => by simp [eqDs] at h
  | x :: a, y :: b, h => by
    simp only [eqDs, Bool.and_eq_true] at h
    rw [eqD_eq h.1, eqDs_eq h.2]
end

theorem eqV_eq {a b : Val} (h : eqV a b = true) : a = b := by
  cases a <;> cases b <;> simp [eqV] at h
  · rw [eqD_eq h]
  · rw [h.1, eqDs_eq h.2]
  · rw [h.1, h.2]
  · rw [h]
  · obtain ⟨⟨⟨⟨h1, h2⟩, h3⟩, h4⟩, h5⟩ := h
    subst h1 h2 h3 h4 h5; rfl

theorem eqVs_eq : ∀ {a b : List Val}, eqVs a b = true → a = b
  | [], [], _ => rfl
  | [], _ :: _, h => by simp [eqVs] at h
  | _ :: _, [], h => by simp [eqVs] at h
  | x :: a, y :: b, h => by
    simp only [eqVs, Bool.and_eq_true] at h
    rw [eqV_eq h.1, eqVs_eq h.2]

/-- What is touched is told. -/
structure Cov (E : Eff) (f : Fp) : Prop where
  rd : ∀ q, q ∈ E.rd → (q.1, q.2.1, q.2.2.length) ∈ f.r ++ f.w ∨ (q.1, 0, big) ∈ f.r ++ f.w
  ro : ∀ q, q ∈ E.ro → (q.1, 0, big) ∈ f.r ++ f.w ∨ ∃ ids s0 s, f.c = some (ids, s0, s) ∧ q.1 ∈ ids
  len : ∀ n, E.len = some n → f.a = some n
  k : E.k = f.k
  wc : ∀ i off v, SW.c i off v ∈ E.ws → ∃ o n, (i, o, n) ∈ f.w ∧ (n = big ∨ o ≤ off ∧ off < o + n)
  wo : ∀ i ob, SW.o i ob ∈ E.ws → (i, 0, big) ∈ f.w ∨ ∃ ids s0 s, f.c = some (ids, s0, s) ∧ i ∈ ids ∧ s.getD i .dead = ob ∧ (i, s0.getD i .dead) ∈ E.ro
  wn : ∀ ob, SW.n ob ∈ E.ws → f.a ≠ none
  ca : f.c ≠ none → f.a ≠ none
  v : f.v.length = 1 → f.r.length = 1 → f.w = [] → f.c = none → (∀ q, q ∈ E.rd → q ∈ f.v) ∧ E.ro = []

theorem cellsDisj_spec {a b : List (Nat × Nat × Nat)} (h : cellsDisj a b = true) {x y : Nat × Nat × Nat} (hx : x ∈ a) (hy : y ∈ b) : x.1 ≠ y.1 ∨ (x.2.2 ≠ big ∧ y.2.2 ≠ big ∧ (x.2.1 + x.2.2 ≤ y.2.1 ∨ y.2.1 + y.2.2 ≤ x.2.1)) := by
  have := List.all_eq_true.1 (List.all_eq_true.1 h x hx) y hy
  simp only [Bool.or_eq_true, Bool.not_eq_true', Bool.and_eq_true] at this
  rcases this with h | ⟨⟨h1, h2⟩, h3⟩
  · left; intro e; rw [e] at h; simp at h
  · right
    refine ⟨fun e => by rw [e] at h1; simp at h1, fun e => by rw [e] at h2; simp at h2, ?_⟩
    rcases h3 with h3 | h3
    · exact .inl (Nat.le_of_ble_eq_true h3)
    · exact .inr (Nat.le_of_ble_eq_true h3)

theorem cellsDisj_symm {a b : List (Nat × Nat × Nat)} (h : cellsDisj a b = true) : cellsDisj b a = true := by
  unfold cellsDisj
  rw [List.all_eq_true]
  intro y hy
  rw [List.all_eq_true]
  intro x hx
  have := List.all_eq_true.1 (List.all_eq_true.1 h x hx) y hy
  simp only [Bool.or_eq_true, Bool.not_eq_true', Bool.and_eq_true] at this ⊢
  rcases this with h | ⟨⟨h1, h2⟩, h3⟩
  · left
    rw [Bool.eq_false_iff] at h ⊢
    intro e
    exact h (by rw [Nat.eq_of_beq_eq_true e]; simp)
  · exact .inr ⟨⟨h2, h1⟩, h3.symm⟩

/-- A call that is told of, against what another one touches. -/
theorem callOk_spec {f g : Fp} {ids : List Nat} {s0 s : Store} (h : callOk f g = true) (hc : f.c = some (ids, s0, s)) :
    g.c = none ∧ (∀ c, c ∈ g.w → c.1 ∉ ids) ∧ ((∀ c, c ∈ g.r → c.1 ∉ ids) ∨ (g.w = [] ∧ g.r.length = 1 ∧ g.v.length = 1 ∧ ∀ c, c ∈ g.v → c.1 ∉ ids ∨ (sameAt s0 c = true ∧ sameAt s c = true))) := by
  unfold callOk at h
  rw [hc] at h
  simp only [Bool.and_eq_true, List.all_eq_true, Bool.or_eq_true, Bool.not_eq_true', Option.isNone_iff_eq_none, List.isEmpty_iff] at h
  obtain ⟨⟨h1, h2⟩, h3⟩ := h
  have ne : ∀ {i : Nat}, elemB i ids = false → i ∉ ids := by
    intro i hi hm
    have : elemB i ids = true := by
      clear hc h2 h3 hi
      induction ids with
      | nil => simp at hm
      | cons j l ih =>
        simp only [elemB]
        rcases List.mem_cons.1 hm with rfl | hm
        · simp
        · cases hb : Nat.beq i j <;> simp [ih hm]
    rw [this] at hi; simp at hi
  refine ⟨h1, fun c hc => ne (h2 c hc), ?_⟩
  rcases h3 with h3 | ⟨⟨⟨h3, h4⟩, h5⟩, h6⟩
  · exact .inl fun c hc => ne (h3 c hc)
  · exact .inr ⟨h3, Nat.eq_of_beq_eq_true h5, Nat.eq_of_beq_eq_true h6, fun c hc => (h4 c hc).imp ne id⟩

theorem sameAt_spec {s : Store} {q : Nat × Nat × List Val} (h : sameAt s q = true) : ∃ cs, s.getD q.1 .dead = .box cs ∧ q.2.1 + q.2.2.length ≤ cs.length ∧ (cs.drop q.2.1).take q.2.2.length = q.2.2 := by
  unfold sameAt at h
  split at h
  · rename_i cs e
    simp only [Bool.and_eq_true] at h
    exact ⟨cs, e, Nat.le_of_ble_eq_true h.1, (eqVs_eq h.2).symm⟩
  · simp at h

theorem roomOk_spec {f g : Fp} (h : roomOk f g = true) {n : Nat} (hn : f.a = some n) : g.a = none ∧ (∀ c, c ∈ g.r ++ g.w → c.1 < n) := by
  unfold roomOk at h
  rw [hn] at h
  simp only [Bool.and_eq_true, List.all_eq_true, Option.isNone_iff_eq_none, Nat.blt_eq] at h
  refine ⟨h.1.1, fun c hc => ?_⟩
  rcases List.mem_append.1 hc with hc | hc
  · exact h.1.2 c hc
  · exact h.2 c hc

/-- One side: the second one's writes leave what the first one reads. -/
theorem safe_of {X Y : Eff} {fx fy : Fp} (cx : Cov X fx) (cy : Cov Y fy) (hd : cellsDisj fy.w (fx.r ++ fx.w) = true) (hc : callOk fx fy = true) (hc' : callOk fy fx = true) (ha : roomOk fy fx = true) : ∀ u, u ∈ Y.ws → u.safe X := by
  have hro : ∀ (i : Nat), (∃ o n, (i, o, n) ∈ fy.w) → ∀ q, q ∈ X.ro → q.1 ≠ i := by
    rintro i ⟨o, n, hw⟩ q hq
    rcases cx.ro q hq with h | ⟨ids, s0, s, h1, h2⟩
    · rcases cellsDisj_spec hd hw h with h | ⟨_, h, _⟩
      · exact Ne.symm h
      · exact absurd rfl h
    · obtain ⟨_, k2, _⟩ := callOk_spec hc h1
      rintro rfl
      exact k2 _ hw h2
  intro u hu
  cases u with
  | c i off v =>
    obtain ⟨o, n, hw, hin⟩ := cy.wc i off v hu
    refine ⟨fun q hq => ?_, hro i ⟨o, n, hw⟩⟩
    rcases cx.rd q hq with h | h
    · rcases cellsDisj_spec hd hw h with h | ⟨h1, h2, h3⟩
      · exact .inl (Ne.symm h)
      · right
        rcases hin with hin | hin
        · exact absurd hin h1
        · simp only at h3 ⊢; omega
    · rcases cellsDisj_spec hd hw h with h | ⟨_, h, _⟩
      · exact .inl (Ne.symm h)
      · exact absurd rfl h
  | o i ob =>
    rcases cy.wo i ob hu with hw | ⟨ids, s0, s, h1, h2, h3, h4⟩
    · refine ⟨fun q hq => .inl ?_, hro i ⟨0, big, hw⟩⟩
      rcases cx.rd q hq with h | h
      · rcases cellsDisj_spec hd hw h with h | ⟨h, _⟩
        · exact Ne.symm h
        · exact absurd rfl h
      · rcases cellsDisj_spec hd hw h with h | ⟨h, _⟩
        · exact Ne.symm h
        · exact absurd rfl h
    · obtain ⟨k1, k2, k3⟩ := callOk_spec hc' h1
      have hne : ∀ j o n, (j, o, n) ∈ fx.r ++ fx.w → (∀ c, c ∈ fx.r → c.1 ∉ ids) → j ∉ ids := by
        intro j o n hm hr
        rcases List.mem_append.1 hm with hm | hm
        · exact hr _ hm
        · exact k2 _ hm
      rcases k3 with k3 | ⟨k3, k4, k5, k6⟩
      · refine ⟨fun q hq => .inl ?_, fun q hq => ?_⟩
        · rintro rfl
          rcases cx.rd q hq with h | h
          · exact hne _ _ _ h k3 h2
          · exact hne _ _ _ h k3 h2
        · rintro rfl
          rcases cx.ro q hq with h | ⟨ids', s0', s', h4, _⟩
          · exact hne _ _ _ h k3 h2
          · rw [k1] at h4; simp at h4
      · obtain ⟨v2, v3⟩ := cx.v k5 k4 k3 k1
        refine ⟨fun q hq => ?_, fun q hq => by rw [v3] at hq; simp at hq⟩
        by_cases hqi : q.1 = i
        · right
          rcases k6 q (v2 q hq) with h | ⟨_, h⟩
          · rw [hqi] at h; exact absurd h2 h
          · obtain ⟨cs, e1, e2, e3⟩ := sameAt_spec h
            rw [hqi, h3] at e1
            exact ⟨cs, e1, e2, e3⟩
        · exact .inl hqi
  | n ob =>
    show X.len = none
    have h1 := cy.wn ob hu
    cases hl : X.len with
    | none => rfl
    | some n =>
      cases hy : fy.a with
      | none => exact absurd hy h1
      | some m =>
        have := (roomOk_spec ha hy).1
        rw [cx.len n hl] at this; simp at this

theorem back_of {X Y : Eff} {fx fy : Fp} (cx : Cov X fx) (cy : Cov Y fy) (hd : cellsDisj fy.w (fx.r ++ fx.w) = true) (hc' : callOk fy fx = true) (ha : roomOk fy fx = true) : Back X Y := by
  refine ⟨fun i ob hu q hq hqi => ?_, fun n hl => ?_⟩
  · rcases cy.wo i ob hu with hw | ⟨ids, s0, s, h1, h2, h3, h4⟩
    · exfalso
      rcases cx.rd q hq with h | h
      · rcases cellsDisj_spec hd hw h with h | ⟨h, _⟩
        · exact h hqi.symm
        · exact h rfl
      · rcases cellsDisj_spec hd hw h with h | ⟨h, _⟩
        · exact h hqi.symm
        · exact h rfl
    · obtain ⟨k1, k2, k3⟩ := callOk_spec hc' h1
      rcases k3 with k3 | ⟨k3, k4, k5, k6⟩
      · exfalso
        subst hqi
        rcases cx.rd q hq with h | h
        · rcases List.mem_append.1 h with h | h
          · exact k3 _ h h2
          · exact k2 _ h h2
        · rcases List.mem_append.1 h with h | h
          · exact k3 _ h h2
          · exact k2 _ h h2
      · obtain ⟨v2, _⟩ := cx.v k5 k4 k3 k1
        subst hqi
        rcases k6 q (v2 q hq) with h | ⟨h, _⟩
        · exact absurd h2 h
        · obtain ⟨cs, e1, e2, e3⟩ := sameAt_spec h
          rw [e1] at h4
          exact ⟨cs, h4, e2, e3⟩
  · obtain ⟨h1, h2⟩ := roomOk_spec ha (cy.len n hl)
    refine ⟨fun q hq => ?_, fun q hq => ?_, ?_⟩
    · rcases cx.rd q hq with h | h
      · exact h2 _ h
      · exact h2 _ h
    · rcases cx.ro q hq with h | ⟨_, _, _, h, _⟩
      · exact h2 _ h
      · exact absurd h1 (cx.ca (by rw [h]; simp))
    · cases hx : X.len with
      | none => rfl
      | some m => rw [cx.len m hx] at h1; simp at h1

theorem ind_of {X Y : Eff} {fx fy : Fp} (cx : Cov X fx) (cy : Cov Y fy) (hd1 : cellsDisj fx.w (fy.r ++ fy.w) = true) (hd2 : cellsDisj fy.w fx.r = true) (hc : callOk fx fy = true) (hc' : callOk fy fx = true) (ha : roomOk fx fy = true) (ha' : roomOk fy fx = true) : IndE X Y := by
  have hww : cellsDisj fx.w fy.w = true := by
    unfold cellsDisj at hd1 ⊢
    rw [List.all_eq_true] at hd1 ⊢
    intro x hx
    have := hd1 x hx
    rw [List.all_append, Bool.and_eq_true] at this
    exact this.2
  have hd3 : cellsDisj fy.w (fx.r ++ fx.w) = true := by
    unfold cellsDisj at hd2 ⊢
    rw [List.all_eq_true] at hd2 ⊢
    intro y hy
    rw [List.all_append, Bool.and_eq_true]
    exact ⟨hd2 y hy, List.all_eq_true.1 (cellsDisj_symm hww) y hy⟩
  refine ⟨safe_of cx cy hd3 hc hc' ha', safe_of cy cx hd1 hc' hc ha, ?_, back_of cx cy hd3 hc' ha', back_of cy cx hd1 hc ha⟩
  intro u hu v hv
  -- an object that is written whole, against a cell or an object
  have call : ∀ {f g : Fp} {ids : List Nat} {s0 s : Store}, callOk f g = true → f.c = some (ids, s0, s) → ∀ {i o n : Nat}, i ∈ ids → (i, o, n) ∈ g.w → False := by
    intro f g ids s0 s h h1 i o n hi hw
    exact (callOk_spec h h1).2.1 _ hw hi
  cases u with
  | c i off x =>
    obtain ⟨o, n, hw, hin⟩ := cx.wc i off x hu
    cases v with
    | c j off' x' =>
      obtain ⟨o', n', hw', hin'⟩ := cy.wc j off' x' hv
      rcases cellsDisj_spec hww hw hw' with h | ⟨h1, h2, h3⟩
      · exact .inl h
      · rcases hin with hin | hin
        · exact absurd hin h1
        · rcases hin' with hin' | hin'
          · exact absurd hin' h2
          · right; simp only at h3; omega
    | o j ob =>
      rcases cy.wo j ob hv with hw' | ⟨ids, s0, s, h1, h2, _⟩
      · rcases cellsDisj_spec hww hw hw' with h | ⟨_, h, _⟩
        · exact h
        · exact absurd rfl h
      · rintro rfl; exact call hc' h1 h2 hw
    | n ob => trivial
  | o i ob0 =>
    cases v with
    | c j off' x' =>
      obtain ⟨o', n', hw', hin'⟩ := cy.wc j off' x' hv
      rcases cx.wo i ob0 hu with hw | ⟨ids, s0, s, h1, h2, _⟩
      · rcases cellsDisj_spec hww hw hw' with h | ⟨h, _⟩
        · exact h
        · exact absurd rfl h
      · rintro rfl; exact call hc h1 h2 hw'
    | o j ob =>
      rcases cx.wo i ob0 hu with hw | ⟨ids, s0, s, h1, h2, _⟩
      · rcases cy.wo j ob hv with hw' | ⟨ids', s0', s', h1', h2', _⟩
        · rcases cellsDisj_spec hww hw hw' with h | ⟨h, _⟩
          · exact h
          · exact absurd rfl h
        · rintro rfl; exact call hc' h1' h2' hw
      · rcases cy.wo j ob hv with hw' | ⟨ids', s0', s', h1', h2', _⟩
        · rintro rfl; exact call hc h1 h2 hw'
        · have := (callOk_spec hc h1).1
          rw [h1'] at this; simp at this
    | n ob => trivial
  | n ob0 =>
    cases v with
    | c j off' x' => trivial
    | o j ob => trivial
    | n ob =>
      cases hx : fx.a with
      | none => exact absurd hx (cx.wn ob0 hu)
      | some m => exact absurd (roomOk_spec ha hx).1 (cy.wn ob hv)

end Go.Vm
end

section
/- A run of an instruction: what it hangs on, what it turns. Conditions: none. -/
set_option linter.unusedSimpArgs false
namespace Go.Vm

section
variable {P : Program} {gl : Nat → List D}

def mixE (i : I) (E : Eff) (st2 st' : St) : St :=
  ⟨fun t => if t ∈ i.hw ∨ t ∈ E.k then st'.tm t else st2.tm t, fun t => if t ∈ i.bwr then st'.bx t else st2.bx t, apps E.ws st2.s⟩

/-- An instruction's one outcome. -/
structure OutI (P : Program) (gl : Nat → List D) (i : I) (st st' : St) (E : Eff) : Prop where
  tm : ∀ t, t ∉ i.hw → t ∉ E.k → st'.tm t = st.tm t
  bx : ∀ t, t ∉ i.bwr → st'.bx t = st.bx t
  s : st'.s = apps E.ws st.s
  ag : AgreeS E st.s
  k : ∀ t, t ∈ E.k → t ∈ i.kl
  at_ : ∀ u, u ∈ E.ws → u.at E
  r0 : i.rs = false → E.rd = [] ∧ E.ro = [] ∧ E.len = none
  w0 : i.ws = false → E.ws = [] ∧ E.len = none
  re : ∀ (st2 : St) (K2 : St → Prop), (∀ t, t ∈ i.rd → st2.tm t = st.tm t) → (∀ t, t ∈ i.brd → st2.bx t = st.bx t) → AgreeS E st2.s → K2 (mixE i E st2 st') → step (AP P gl) gl i st2 K2

def OI (P : Program) (gl : Nat → List D) (i : I) : Prop := ∀ (st : St) (K : St → Prop), step (AP P gl) gl i st K → ∃ st' E, K st' ∧ OutI P gl i st st' E ∧ Cov E (fpOf gl i st st')

theorem mixE_eq {i : I} {E : Eff} {st2 st' st3 : St} (h1 : ∀ t, (if t ∈ i.hw ∨ t ∈ E.k then st'.tm t else st2.tm t) = st3.tm t) (h2 : ∀ t, (if t ∈ i.bwr then st'.bx t else st2.bx t) = st3.bx t) (h3 : apps E.ws st2.s = st3.s) :
    mixE i E st2 st' = st3 := by
  obtain ⟨a, b, c⟩ := st3
  simp only [mixE, St.mk.injEq]
  exact ⟨funext h1, funext h2, h3⟩

theorem cov_nil : Cov {} {} := ⟨by simp, by simp, by simp, rfl, by simp, by simp, by simp, by simp, by simp⟩

/-- One that has nothing to do with the store. -/
theorem oi_ns {i : I} (h2 : twoWays i = false) (hr : i.rs = false) (hk : i.kl = []) (hf : ∀ st st', fpOf gl i st st' = {}) : OI P gl i := by
  intro st K h
  obtain ⟨st', h1, a1, a2, a3, a4⟩ := ch_ns h2 hr st K h
  have hw : i.wr = i.hw := by unfold I.wr; rw [hk, List.append_nil]
  have hws : i.ws = false := by
    cases hws : i.ws with
    | false => rfl
    | true =>
      have : i.rs = true := by cases i <;> simp [I.ws, I.rs] at hws ⊢
      rw [hr] at this; simp at this
  refine ⟨st', {}, h1, ⟨fun t ht _ => a1 t (by rw [hw]; exact ht), a2, a3 hws, ⟨by simp, by simp, by simp⟩, by simp, by simp, fun _ => ⟨rfl, rfl, rfl⟩, fun _ => ⟨rfl, rfl⟩, ?_⟩, by rw [hf]; exact cov_nil⟩
  intro st2 K2 e1 e2 _ hk2
  refine a4 st2 K2 ⟨e1, e2, by rw [hr]; simp⟩ ?_
  have : mix i st2 st' = mixE i {} st2 st' := by
    refine mix_eq (fun t => ?_) (fun t => ?_) ?_
    · simp [mixE, hw]
    · simp [mixE]
    · simp [mixE, hws, apps]
  rw [this]; exact hk2

theorem evs {i : I} {st st2 : St} (h : ∀ t, t ∈ i.rd → st2.tm t = st.tm t) {x : O} (hx : ∀ t, t ∈ x.slots → t ∈ i.rd) : Vm.ev gl st2 x = Vm.ev gl st x := by
  cases x with
  | t n => exact h n (hx n (by simp [O.slots]))
  | c v => rfl
  | g n => rfl

/-- A result, and what is laid into the store. -/
theorem OutI.mk1 {i : I} {d : Nat} {v : Val} {E : Eff} {st : St} (hr0 : i.rs = true) (hw0 : i.ws = false → E.ws = [] ∧ E.len = none) (hw : i.hw = [d]) (hb : i.bwr = []) (hk : E.k = []) (ag : AgreeS E st.s) (hat : ∀ u, u ∈ E.ws → u.at E)
    (re : ∀ (st2 : St) (K2 : St → Prop), (∀ t, t ∈ i.rd → st2.tm t = st.tm t) → AgreeS E st2.s → K2 ({ st2 with s := apps E.ws st2.s }.set d v) → step (AP P gl) gl i st2 K2) :
    OutI P gl i st ({ st with s := apps E.ws st.s }.set d v) E := by
  refine ⟨fun t ht _ => ?_, fun t _ => rfl, rfl, ag, by rw [hk]; simp, hat, fun h => by rw [hr0] at h; simp at h, hw0, fun st2 K2 e1 _ e3 hk2 => re st2 K2 e1 e3 ?_⟩
  · rw [hw] at ht
    simp only [List.mem_singleton] at ht
    simp only [St.set, upd_eq, ht, if_false]
  · have : mixE i E st2 ({ st with s := apps E.ws st.s }.set d v) = { st2 with s := apps E.ws st2.s }.set d v := by
      refine mixE_eq (fun t => ?_) (fun t => by simp [hb, St.set]) rfl
      simp only [hw, hk, List.mem_singleton, List.not_mem_nil, or_false, St.set, upd_eq]
      split <;> rfl
    rwa [this] at hk2

theorem box_get {s : Store} {i : Nat} {ob : Ob} (h : s.getD i .dead = ob) (hd : ob ≠ .dead) : s[i]? = some ob := by
  rw [List.getD_eq_getElem?_getD] at h
  cases hq : s[i]? with
  | none => rw [hq] at h; exact absurd h.symm hd
  | some o => rw [hq] at h; simp at h; rw [h]

theorem get_getD {s : Store} {i : Nat} {ob : Ob} (h : s[i]? = some ob) : s.getD i .dead = ob := by
  rw [List.getD_eq_getElem?_getD, h]; rfl

theorem valOf_reads {cs cs2 : List Val} {off n : Nat} {ag : Bool} (h : (cs2.drop off).take n = (cs.drop off).take n) (hn : (ag || Nat.beq n 1) = true) (h1 : off + n ≤ cs.length) (h2 : off + n ≤ cs2.length) : valOf cs2 off n ag = valOf cs off n ag := by
  unfold valOf
  cases ag with
  | true => simp only [cond_true]; rw [h]
  | false =>
    simp only [Bool.false_or] at hn
    obtain rfl : n = 1 := Nat.eq_of_beq_eq_true hn
    simp only [cond_false]
    have e1 : (cs.drop off).take 1 = [cs.getD off .undef] := by
      rw [List.drop_eq_getElem_cons (show off < cs.length by omega), List.take_succ_cons, List.take_zero, List.getD_eq_getElem?_getD, List.getElem?_eq_getElem (show off < cs.length by omega)]; rfl
    have e2 : (cs2.drop off).take 1 = [cs2.getD off .undef] := by
      rw [List.drop_eq_getElem_cons (show off < cs2.length by omega), List.take_succ_cons, List.take_zero, List.getD_eq_getElem?_getD, List.getElem?_eq_getElem (show off < cs2.length by omega)]; rfl
    rw [e1, e2] at h
    simp only [List.cons.injEq, and_true] at h
    rw [h]

theorem oi_hl {d n : Nat} {ag : Bool} {x : O} : OI P gl (.hl d x n ag) := by
  intro st K h
  simp only [step] at h
  split at h
  · rename_i i off e1
    split at h
    · rename_i cs e2
      obtain ⟨hg, h⟩ := h
      simp only [Bool.and_eq_true] at hg
      have hle := Nat.le_of_ble_eq_true hg.1
      have hlen : ((cs.drop off).take n).length = n := by rw [List.length_take, List.length_drop]; omega
      refine ⟨_, { rd := [(i, off, (cs.drop off).take n)] }, h, .mk1 (E := { rd := [(i, off, (cs.drop off).take n)] }) rfl (fun _ => ⟨rfl, rfl⟩) rfl rfl rfl ⟨?_, by simp, by simp⟩ (by simp) fun st2 K2 e3 e4 hk => ?_, ?_⟩
      · intro q hq
        simp only [List.mem_singleton] at hq
        subst hq
        exact ⟨cs, box_get e2 (by simp), by rw [hlen]; exact hle, by rw [hlen]⟩
      · obtain ⟨cs2, f1, f2, f3⟩ := e4.rd _ (List.mem_singleton.2 rfl)
        simp only [hlen] at f1 f2 f3
        have hv := valOf_reads f3 hg.2 hle f2
        simp only [step, evs (gl := gl) e3 (x := x) (fun t ht => ht), e1, get_getD f1, AP_guard]
        refine ⟨by simp only [Bool.and_eq_true]; exact ⟨Nat.ble_eq_true_of_le f2, hg.2⟩, ?_⟩
        rw [hv]; exact hk
      · simp only [fpOf, e1, e2]
        refine ⟨?_, by simp, by simp, rfl, by simp, by simp, by simp, by simp, fun _ _ _ _ => ⟨fun q hq => hq, rfl⟩⟩
        intro q hq
        simp only [List.mem_singleton] at hq
        subst hq
        left
        simp [hlen]
    · exact h.elim
  · rename_i cs off e1
    obtain ⟨hg, h⟩ := h
    refine ⟨_, {}, h, .mk1 (E := {}) rfl (fun _ => ⟨rfl, rfl⟩) rfl rfl rfl ⟨by simp, by simp, by simp⟩ (by simp) fun st2 K2 e3 e4 hk => ?_, ?_⟩
    · simp only [step, evs (gl := gl) e3 (x := x) (fun t ht => ht), e1, AP_guard]
      exact ⟨hg, hk⟩
    · simp only [fpOf, e1]; exact cov_nil
  · exact h.elim

theorem oi_ht {d : Nat} {x : O} : OI P gl (.ht d x) := by
  intro st K h
  simp only [step] at h
  split at h
  · rename_i i off e1
    split at h
    · rename_i cs e2
      obtain ⟨hg, h⟩ := h
      have hlt : off < cs.length := by simpa [Nat.blt_eq] using hg
      have hsx : (cs.drop off).take 1 = [cs.getD off .undef] := by
        rw [List.drop_eq_getElem_cons hlt, List.take_succ_cons, List.take_zero, List.getD_eq_getElem?_getD, List.getElem?_eq_getElem hlt]; rfl
      have happ : ∀ (s2 : Store) (cs2 : List Val), s2[i]? = some (.box cs2) → apps [SW.c i off .undef] s2 = s2.set i (.box (cs2.set off .undef)) := by
        intro s2 cs2 h2
        simp only [apps, SW.app, get_getD h2]
      have hE : AgreeS { rd := [(i, off, [cs.getD off .undef])], ws := [SW.c i off .undef] } st.s := by
        refine ⟨?_, by simp, by simp⟩
        intro q hq
        simp only [List.mem_singleton] at hq
        subst hq
        exact ⟨cs, box_get e2 (by simp), by simp; omega, by simpa using hsx⟩
      refine ⟨_, { rd := [(i, off, [cs.getD off .undef])], ws := [.c i off .undef] }, ?_, .mk1 (v := cs.getD off .undef) (E := { rd := [(i, off, [cs.getD off .undef])], ws := [.c i off .undef] }) rfl (by simp [I.ws]) rfl rfl rfl hE ?_ fun st2 K2 e3 e4 hk => ?_, ?_⟩
      · rw [show apps [SW.c i off .undef] st.s = _ from happ _ cs (box_get e2 (by simp))]; exact h
      · intro u hu
        simp only [List.mem_singleton] at hu
        subst hu
        exact ⟨_, List.mem_singleton.2 rfl, rfl, Nat.le_refl _, by simp⟩
      · obtain ⟨cs2, f1, f2, f3⟩ := e4.rd _ (List.mem_singleton.2 rfl)
        simp only [List.length_cons, List.length_nil] at f1 f2 f3
        have hlt2 : off < cs2.length := by omega
        have hsx2 : (cs2.drop off).take 1 = [cs2.getD off .undef] := by
          rw [List.drop_eq_getElem_cons hlt2, List.take_succ_cons, List.take_zero, List.getD_eq_getElem?_getD, List.getElem?_eq_getElem hlt2]; rfl
        have hv : cs2.getD off .undef = cs.getD off .undef := by
          rw [show (0 + 1 : Nat) = 1 from rfl, hsx2] at f3
          simpa using f3
        simp only [step, evs (gl := gl) e3 (x := x) (fun t ht => ht), e1, get_getD f1, AP_guard]
        refine ⟨by simpa [Nat.blt_eq] using hlt2, ?_⟩
        rw [show apps [SW.c i off .undef] st2.s = _ from happ _ cs2 f1] at hk
        rw [hv]; exact hk
      · simp only [fpOf, e1]
        refine ⟨?_, by simp, by simp, rfl, ?_, by simp, by simp, by simp, by simp⟩
        · intro q hq
          simp only [List.mem_singleton] at hq
          subst hq
          left; simp
        · intro i' off' v' hu
          simp only [List.mem_singleton, SW.c.injEq] at hu
          obtain ⟨rfl, rfl, rfl⟩ := hu
          exact ⟨off', 1, by simp, .inr ⟨Nat.le_refl _, by omega⟩⟩
    · exact h.elim
  · exact h.elim

/-- The writes of cells one behind another. -/
def cw (i : Nat) : Nat → List Val → List SW
  | _, [] => []
  | off, v :: l => .c i off v :: cw i (off + 1) l

theorem cw_mem {i : Nat} : ∀ {l : List Val} {off : Nat} {u : SW}, u ∈ cw i off l → ∃ off' v, u = .c i off' v ∧ off ≤ off' ∧ off' < off + l.length
  | [], _, _, h => by simp [cw] at h
  | v :: l, off, u, h => by
    simp only [cw, List.mem_cons] at h
    rcases h with rfl | h
    · exact ⟨off, v, rfl, Nat.le_refl _, by simp⟩
    · obtain ⟨off', v', h1, h2, h3⟩ := cw_mem h
      exact ⟨off', v', h1, by omega, by simp; omega⟩

theorem cw_apps {i : Nat} : ∀ {l : List Val} {off : Nat} {s : Store} {cs : List Val}, s[i]? = some (.box cs) → apps (cw i off l) s = s.set i (.box (putCells cs off l))
  | [], off, s, cs, h => by
    simp only [cw, apps, putCells]
    exact (set_same (get_getD h)).symm
  | v :: l, off, s, cs, h => by
    have hi : i < s.length := (List.getElem?_eq_some_iff.1 h).1
    simp only [cw, apps, putCells, SW.app, get_getD h]
    rw [cw_apps (cs := cs.set off v) (by rw [List.getElem?_set_self hi]), List.set_set]

end
end Go.Vm
end

section
/- A run of an instruction: those that write the store. Conditions: none. -/
set_option linter.unusedSimpArgs false
namespace Go.Vm

section
variable {P : Program} {gl : Nat → List D}

theorem killed_sub {st : St} {x : O} {t : Nat} (h : t ∈ killed st x) : t ∈ x.slots := by
  cases x with
  | t s =>
    simp only [killed] at h
    split at h
    · simpa [O.slots] using h
    · simp at h
  | c v => simp [killed] at h
  | g n => simp [killed] at h

theorem kill_not {st : St} {x : O} {t : Nat} (h : t ∉ killed st x) : (kill st x).tm t = st.tm t := by
  cases x with
  | t s =>
    simp only [killed, kill] at h ⊢
    split at h
    · simp only [List.mem_singleton] at h
      simp only [St.set, upd_eq, h, if_false]
    · rfl
  | c v => rfl
  | g n => rfl

theorem kill_mixE {st st2 : St} {x : O} {t : Nat} (h : ∀ t, t ∈ x.slots → st2.tm t = st.tm t) : (if t ∈ killed st x then (kill st x).tm t else st2.tm t) = (kill st2 x).tm t := by
  have hk : killed st2 x = killed st x := by
    cases x with
    | t s => simp only [killed, h s (by simp [O.slots])]
    | c v => rfl
    | g n => rfl
  split
  · rename_i ht
    exact (kill_in (killed_sub ht) (h t (killed_sub ht))).symm
  · rename_i ht
    exact (kill_not (by rw [hk]; exact ht)).symm

theorem oi_asg {d : Nat} {x : O} : OI P gl (.asg d x) := by
  intro st K h
  refine ⟨_, { k := killed st x }, h, ⟨fun t ht hk => ?_, fun t _ => by simp [St.set, kill_bx], by simp [St.set, kill_s, apps], ⟨by simp, by simp, by simp⟩, fun t ht => killed_sub ht, by simp, fun _ => ⟨rfl, rfl, rfl⟩, fun _ => ⟨rfl, rfl⟩, fun st2 K2 e1 e2 _ hk2 => ?_⟩, ?_⟩
  · simp only [I.hw, I.dst, Option.toList_some, List.append_nil, List.mem_singleton] at ht
    simp only [St.set, upd_eq, ht, if_false]
    exact kill_not hk
  · have e := evs (gl := gl) e1 (x := x) (fun t ht => ht)
    have : mixE (.asg d x) { k := killed st x } st2 ((kill st x).set d (ev gl st x)) = (kill st2 x).set d (ev gl st2 x) := by
      refine mixE_eq (fun t => ?_) (fun t => by simp [St.set, kill_bx, I.bwr]) (by simp [St.set, kill_s, apps])
      simp only [I.hw, I.dst, Option.toList_some, List.append_nil, List.mem_singleton, St.set, upd_eq, e]
      by_cases h1 : t = d
      · simp [h1]
      · simp only [h1, false_or, if_false]
        exact kill_mixE e1
    rw [this] at hk2
    exact hk2
  · exact ⟨by simp, by simp, by simp, rfl, by simp, by simp, by simp, by simp [fpOf], by simp [fpOf]⟩

theorem oi_ls {t off n : Nat} {x y : O} : OI P gl (.ls x t off y n) := by
  intro st K h
  simp only [step] at h
  split at h
  · rename_i t' off' cs e1 e2
    obtain ⟨hg, h⟩ := h
    refine ⟨_, { k := killed st y }, h, ⟨fun u hu hk => ?_, fun u hu => ?_, by simp [St.setB, kill_s, apps], ⟨by simp, by simp, by simp⟩, fun t ht => killed_sub ht, by simp, fun _ => ⟨rfl, rfl, rfl⟩, fun _ => ⟨rfl, rfl⟩, fun st2 K2 a1 a2 _ hk2 => ?_⟩, ?_⟩
    · simp only [St.setB]
      exact kill_not hk
    · simp only [I.bwr, List.mem_cons, List.not_mem_nil, or_false] at hu
      simp only [St.setB, upd_eq, hu, if_false, kill_bx]
    · have e := a2 t (by simp [I.brd])
      have e' := evs (gl := gl) a1 (x := x) (fun t ht => List.mem_append_left _ ht)
      have e'' := evs (gl := gl) a1 (x := y) (fun t ht => List.mem_append_right _ ht)
      have : mixE (.ls x t off y n) { k := killed st y } st2 ((kill st y).setB t (putCells cs off (cellsOf (ev gl st y)))) = (kill st2 y).setB t (putCells cs off (cellsOf (ev gl st y))) := by
        refine mixE_eq (fun u => ?_) (fun u => ?_) (by simp [St.setB, kill_s, apps])
        · simp only [I.hw, I.dst, Option.toList_none, List.append_nil, List.not_mem_nil, false_or, St.setB]
          exact kill_mixE fun u hu => a1 u (List.mem_append_right _ hu)
        · simp only [I.bwr, List.mem_cons, List.not_mem_nil, or_false, St.set, St.setB, upd_eq, kill_bx]
          split <;> rfl
      rw [this] at hk2
      simp only [step, e, e', e'', e1, e2]
      exact ⟨hg, hk2⟩
    · exact ⟨by simp, by simp, by simp, rfl, by simp, by simp, by simp, by simp [fpOf], by simp [fpOf]⟩
  · exact h.elim

theorem oi_hs {n : Nat} {x y : O} : OI P gl (.hs x y n) := by
  intro st K h
  simp only [step] at h
  split at h
  · rename_i i off e1
    split at h
    · rename_i cs e2
      obtain ⟨hg, h⟩ := h
      have hg' := hg
      simp only [Bool.and_eq_true] at hg'
      have hn := Nat.eq_of_beq_eq_true hg'.1.1
      have hle := Nat.le_of_ble_eq_true hg'.1.2
      have hlen : ((cs.drop off).take n).length = n := by rw [List.length_take, List.length_drop]; omega
      refine ⟨_, { rd := [(i, off, (cs.drop off).take n)], ws := cw i off (cellsOf (ev gl st y)), k := killed st y }, h, ⟨fun u hu hk => kill_not hk, fun u hu => by simp [kill_bx], ?_, ⟨?_, by simp, by simp⟩, fun t ht => killed_sub ht, ?_, by simp [I.rs], by simp [I.ws], fun st2 K2 a1 a2 a3 hk2 => ?_⟩, ?_⟩
      · exact (cw_apps (box_get e2 (by simp))).symm
      · intro q hq
        simp only [List.mem_singleton] at hq
        subst hq
        exact ⟨cs, box_get e2 (by simp), by rw [hlen]; exact hle, by rw [hlen]⟩
      · intro u hu
        obtain ⟨off', v, rfl, h1, h2⟩ := cw_mem hu
        refine ⟨_, List.mem_singleton.2 rfl, rfl, h1, ?_⟩
        simp only [hlen]; omega
      · obtain ⟨cs2, f1, f2, f3⟩ := a3.rd _ (List.mem_singleton.2 rfl)
        simp only [hlen] at f1 f2 f3
        have e' := evs (gl := gl) a1 (x := x) (fun t ht => List.mem_append_left _ ht)
        have e'' := evs (gl := gl) a1 (x := y) (fun t ht => List.mem_append_right _ ht)
        have : mixE (.hs x y n) { rd := [(i, off, (cs.drop off).take n)], ws := cw i off (cellsOf (ev gl st y)), k := killed st y } st2 { kill st y with s := st.s.set i (.box (putCells cs off (cellsOf (ev gl st y)))) } = { kill st2 y with s := st2.s.set i (.box (putCells cs2 off (cellsOf (ev gl st y)))) } := by
          refine mixE_eq (fun u => ?_) (fun u => by simp [I.bwr, kill_bx]) (cw_apps f1)
          simp only [I.hw, I.dst, Option.toList_none, List.append_nil, List.not_mem_nil, false_or]
          exact kill_mixE fun u hu => a1 u (List.mem_append_right _ hu)
        rw [this] at hk2
        simp only [step, e', e'', e1, get_getD f1]
        refine ⟨?_, hk2⟩
        simp only [Bool.and_eq_true]
        exact ⟨⟨hg'.1.1, Nat.ble_eq_true_of_le f2⟩, hg'.2⟩
      · simp only [fpOf, e1]
        refine ⟨?_, by simp, by simp, rfl, ?_, ?_, ?_, by simp, by simp⟩
        · intro q hq
          simp only [List.mem_singleton] at hq
          subst hq
          left; simp [hlen]
        · intro i' off' v' hu
          obtain ⟨o2, v2, he, h1, h2⟩ := cw_mem hu
          simp only [SW.c.injEq] at he
          obtain ⟨rfl, rfl, rfl⟩ := he
          exact ⟨off, n, by simp, .inr ⟨h1, by omega⟩⟩
        · intro i' ob hu
          obtain ⟨o2, v2, he, _⟩ := cw_mem hu
          simp at he
        · intro ob hu
          obtain ⟨o2, v2, he, _⟩ := cw_mem hu
          simp at he
    · exact h.elim
  · exact h.elim

/-- A result; of the store one object is looked at, if any. -/
theorem toD_eq {a b : Val} (h : a = b) : toD a = toD b := by rw [h]

theorem oi_lk {d : Nat} {ag ok : Bool} {ks : List Nat} {m k : O} {z : Val} : OI P gl (.lk d ag ks m k z ok) := by
  intro st K h
  have em : ∀ {st2 : St}, (∀ t, t ∈ (I.lk d ag ks m k z ok).rd → st2.tm t = st.tm t) → ev gl st2 m = ev gl st m ∧ ev gl st2 k = ev gl st k := fun e => ⟨evs (gl := gl) e (fun t ht => List.mem_append_left _ ht), evs (gl := gl) e (fun t ht => List.mem_append_right _ ht)⟩
  have cov0 : (∀ i, ev gl st m ≠ .map i) → ∀ st', Cov {} (fpOf gl (.lk d ag ks m k z ok) st st') := by
    intro hne st'
    simp only [fpOf]
    exact cov_nil
  simp only [step] at h
  split at h
  · exact h.elim
  · rename_i kd e0
    obtain ⟨hg, h⟩ := h
    split at h
    · rename_i e1
      refine ⟨_, {}, h, .mk1 (E := {}) rfl (fun _ => ⟨rfl, rfl⟩) rfl rfl rfl ⟨by simp, by simp, by simp⟩ (by simp) fun st2 K2 e3 _ hk => ?_, cov0 (by rw [e1]; simp) _⟩
      simp only [step, (em e3).1, (em e3).2, e0, e1]
      exact ⟨hg, hk⟩
    · rename_i kl vl e1
      split at h
      · rename_i e2
        refine ⟨_, {}, h, .mk1 (E := {}) rfl (fun _ => ⟨rfl, rfl⟩) rfl rfl rfl ⟨by simp, by simp, by simp⟩ (by simp) fun st2 K2 e3 _ hk => ?_, cov0 (by rw [e1]; simp) _⟩
        simp only [step, (em e3).1, (em e3).2, e0, e1, e2]
        exact ⟨hg, hk⟩
      · rename_i j e2
        split at h
        · rename_i v e4
          refine ⟨_, {}, h, .mk1 (E := {}) rfl (fun _ => ⟨rfl, rfl⟩) rfl rfl rfl ⟨by simp, by simp, by simp⟩ (by simp) fun st2 K2 e3 _ hk => ?_, cov0 (by rw [e1]; simp) _⟩
          simp only [step, (em e3).1, (em e3).2, e0, e1, e2, e4]
          exact ⟨hg, hk⟩
        · exact h.elim
      · exact h.elim
    · rename_i i e1
      split at h
      · rename_i es e5
        have hag : AgreeS { ro := [(i, .map es)] } st.s := by
          refine ⟨by simp, ?_, by simp⟩
          intro q hq
          simp only [List.mem_singleton] at hq
          subst hq
          exact box_get e5 (by simp)
        have hcov : ∀ st', Cov { ro := [(i, .map es)] } (fpOf gl (.lk d ag ks m k z ok) st st') := by
          intro st'
          simp only [fpOf, e1]
          refine ⟨by simp, ?_, by simp, rfl, by simp, by simp, by simp, by simp, by simp⟩
          intro q hq
          simp only [List.mem_singleton] at hq
          subst hq
          left; simp
        split at h
        · rename_i e2
          refine ⟨_, { ro := [(i, .map es)] }, h, .mk1 (E := { ro := [(i, .map es)] }) rfl (fun _ => ⟨rfl, rfl⟩) rfl rfl rfl hag (by simp) fun st2 K2 e3 e6 hk => ?_, hcov _⟩
          have := get_getD (e6.ro _ (List.mem_singleton.2 rfl))
          simp only at this
          simp only [step, (em e3).1, (em e3).2, e0, e1, this, e2]
          exact ⟨hg, hk⟩
        · rename_i j e2
          split at h
          · rename_i v e4
            refine ⟨_, { ro := [(i, .map es)] }, h, .mk1 (E := { ro := [(i, .map es)] }) rfl (fun _ => ⟨rfl, rfl⟩) rfl rfl rfl hag (by simp) fun st2 K2 e3 e6 hk => ?_, hcov _⟩
            have := get_getD (e6.ro _ (List.mem_singleton.2 rfl))
            simp only at this
            simp only [step, (em e3).1, (em e3).2, e0, e1, this, e2, e4]
            exact ⟨hg, hk⟩
          · exact h.elim
        · exact h.elim
      · exact h.elim
    · exact h.elim

/-- No result: an object is laid anew. -/
theorem OutI.mkO {i : I} {E : Eff} {st : St} (hr0 : i.rs = true) (hw0 : i.ws = true) (hw : i.dst = none ∧ i.hw = []) (hb : i.bwr = []) (hk : E.k = []) (ag : AgreeS E st.s) (hat : ∀ u, u ∈ E.ws → u.at E)
    (re : ∀ (st2 : St) (K2 : St → Prop), (∀ t, t ∈ i.rd → st2.tm t = st.tm t) → AgreeS E st2.s → K2 { st2 with s := apps E.ws st2.s } → step (AP P gl) gl i st2 K2) :
    OutI P gl i st { st with s := apps E.ws st.s } E := by
  refine ⟨fun t ht _ => rfl, fun t _ => rfl, rfl, ag, by rw [hk]; simp, hat, fun h => by rw [hr0] at h; simp at h, fun h => by rw [hw0] at h; simp at h, fun st2 K2 e1 _ e3 hk2 => re st2 K2 e1 e3 ?_⟩
  have : mixE i E st2 { st with s := apps E.ws st.s } = { st2 with s := apps E.ws st2.s } := by
    refine mixE_eq (fun t => ?_) (fun t => by simp [hb]) rfl
    simp [hw.2, hk]
  rwa [this] at hk2

theorem oi_mu {ag : Bool} {ks : List Nat} {m k x : O} : OI P gl (.mu ag ks m k x) := by
  intro st K h
  simp only [step] at h
  split at h
  · rename_i i kd e1 e0
    split at h
    · rename_i es e2
      split at h
      · rename_i j e4
        obtain ⟨hg, h⟩ := h
        have happ : ∀ {s : Store}, apps [SW.o i (.map (putK es kd (frz (ev gl st x)) j))] s = s.set i (.map (putK es kd (frz (ev gl st x)) j)) := rfl
        refine ⟨_, { ro := [(i, .map es)], ws := [.o i (.map (putK es kd (frz (ev gl st x)) j))] }, h, .mkO (E := { ro := [(i, .map es)], ws := [.o i (.map (putK es kd (frz (ev gl st x)) j))] }) rfl rfl ⟨rfl, rfl⟩ rfl rfl ⟨by simp, ?_, by simp⟩ ?_ fun st2 K2 e3 e6 hk => ?_, ?_⟩
        · intro q hq
          simp only [List.mem_singleton] at hq
          subst hq
          exact box_get e2 (by simp)
        · intro u hu
          simp only [List.mem_singleton] at hu
          subst hu
          exact ⟨_, List.mem_singleton.2 rfl, rfl⟩
        · have := get_getD (e6.ro _ (List.mem_singleton.2 rfl))
          simp only at this
          have f1 := evs (gl := gl) e3 (x := m) (fun t ht => List.mem_append_left _ (List.mem_append_left _ ht))
          have f2 := evs (gl := gl) e3 (x := k) (fun t ht => List.mem_append_left _ (List.mem_append_right _ ht))
          have f3 := evs (gl := gl) e3 (x := x) (fun t ht => List.mem_append_right _ ht)
          simp only [step, f1, f2, f3, e0, e1, this, e4]
          exact ⟨hg, hk⟩
        · simp only [fpOf, e1]
          refine ⟨by simp, ?_, by simp, rfl, by simp, ?_, by simp, by simp, by simp⟩
          · intro q hq
            simp only [List.mem_singleton] at hq
            subst hq
            left; simp
          · intro i' ob hu
            simp only [List.mem_singleton, SW.o.injEq] at hu
            obtain ⟨rfl, rfl⟩ := hu
            left; simp
      · exact h.elim
    · exact h.elim
  · exact h.elim

end
end Go.Vm
end

section
/- A run of an instruction: appends, objects, calls. Conditions: none. -/
set_option linter.unusedSimpArgs false
namespace Go.Vm

section
variable {P : Program} {gl : Nat → List D}

/-- Slots are turned, and the store. -/
theorem OutI.mkU {i : I} {U : (Nat → Val) → Nat → Val} {E : Eff} {st : St} (hr0 : i.rs = true) (hw0 : i.ws = false → E.ws = [] ∧ E.len = none) (hb : i.bwr = []) (hk : E.k = [])
    (h1 : ∀ (f : Nat → Val) t, t ∉ i.hw → U f t = f t) (h2 : ∀ f f2 t, t ∈ i.hw → (∀ t, t ∈ i.rd → f2 t = f t) → U f2 t = U f t) (ag : AgreeS E st.s) (hat : ∀ u, u ∈ E.ws → u.at E)
    (re : ∀ (st2 : St) (K2 : St → Prop), (∀ t, t ∈ i.rd → st2.tm t = st.tm t) → AgreeS E st2.s → K2 ⟨U st2.tm, st2.bx, apps E.ws st2.s⟩ → step (AP P gl) gl i st2 K2) :
    OutI P gl i st ⟨U st.tm, st.bx, apps E.ws st.s⟩ E := by
  refine ⟨fun t ht _ => h1 _ t ht, fun t _ => rfl, rfl, ag, by rw [hk]; simp, hat, fun h => by rw [hr0] at h; simp at h, hw0, fun st2 K2 e1 _ e3 hk2 => re st2 K2 e1 e3 ?_⟩
  have : mixE i E st2 ⟨U st.tm, st.bx, apps E.ws st.s⟩ = ⟨U st2.tm, st2.bx, apps E.ws st2.s⟩ := by
    refine mixE_eq (fun t => ?_) (fun t => by simp [hb]) rfl
    simp only [hk, List.not_mem_nil, or_false]
    split
    · rename_i ht; exact (h2 _ _ t ht e1).symm
    · rename_i ht; exact (h1 _ t ht).symm
  rwa [this] at hk2

theorem oi_lob {d sz : Nat} {xs : List O} : OI P gl (.lob d sz xs) := by
  intro st K h
  simp only [step] at h
  obtain ⟨hg, h⟩ := h
  refine ⟨_, { len := some st.s.length, ws := [.n (.box (xs.map fun x => cellsOf (frz (snap (ev gl st x)))).flatten)] }, h, .mk1 (E := { len := some st.s.length, ws := [.n (.box (xs.map fun x => cellsOf (frz (snap (ev gl st x)))).flatten)] }) rfl (by simp [I.ws]) rfl rfl rfl ⟨by simp, by simp, fun n hn => by simpa using hn⟩ ?_ fun st2 K2 e3 e4 hk => ?_, ?_⟩
  · intro u hu
    simp only [List.mem_singleton] at hu
    subst hu
    simp [SW.at]
  · have hl := e4.len _ rfl
    have hm : (xs.map fun x => cellsOf (frz (snap (ev gl st2 x)))) = xs.map fun x => cellsOf (frz (snap (ev gl st x))) := by
      refine List.map_congr_left fun x hx => ?_
      rw [evs (gl := gl) e3 (x := x) fun t ht => List.mem_flatMap.2 ⟨x, hx, ht⟩]
    simp only [step, hm, hl]
    exact ⟨hg, hk⟩
  · refine ⟨by simp, by simp, fun n hn => by simpa [fpOf] using hn, rfl, by simp, by simp, by simp [fpOf], by simp [fpOf], by simp [fpOf]⟩

theorem oi_hx {d t e : Nat} : OI P gl (.hx d t e) := by
  intro st K h
  simp only [step] at h
  refine ⟨_, { len := some st.s.length, ws := [.n (.bld t e [])] }, h, .mk1 (E := { len := some st.s.length, ws := [.n (.bld t e [])] }) rfl (by simp [I.ws]) rfl rfl rfl ⟨by simp, by simp, fun n hn => by simpa using hn⟩ ?_ fun st2 K2 e3 e4 hk => ?_, ?_⟩
  · intro u hu
    simp only [List.mem_singleton] at hu
    subst hu
    simp [SW.at]
  · have hl := e4.len _ rfl
    simp only [step, hl]
    exact hk
  · refine ⟨by simp, by simp, fun n hn => by simpa [fpOf] using hn, rfl, by simp, by simp, by simp [fpOf], by simp [fpOf], by simp [fpOf]⟩

theorem oi_rg {d : Nat} {x : O} : OI P gl (.rg d x) := by
  intro st K h
  simp only [step] at h
  split at h
  · rename_i e1
    refine ⟨_, { len := some st.s.length, ws := [.n (.itr none)] }, h, .mk1 (E := { len := some st.s.length, ws := [.n (.itr none)] }) rfl (by simp [I.ws]) rfl rfl rfl ⟨by simp, by simp, fun n hn => by simpa using hn⟩ ?_ fun st2 K2 e3 e4 hk => ?_, ?_⟩
    · intro u hu
      simp only [List.mem_singleton] at hu
      subst hu
      simp [SW.at]
    · have hl := e4.len _ rfl
      simp only [step, hl, evs (gl := gl) e3 (x := x) (fun t ht => ht), e1]
      exact hk
    · simp only [fpOf, e1]
      refine ⟨by simp, by simp, fun n hn => by simpa using hn, rfl, by simp, by simp, by simp, by simp, by simp⟩
  · rename_i i e1
    obtain ⟨hg, h⟩ := h
    have ⟨es, e2⟩ : ∃ es, st.s.getD i .dead = .map es := by
      split at hg
      · rename_i es e; exact ⟨es, e⟩
      · simp at hg
    refine ⟨_, { ro := [(i, .map es)], len := some st.s.length, ws := [.n (.itr (some i))] }, h, .mk1 (E := { ro := [(i, .map es)], len := some st.s.length, ws := [.n (.itr (some i))] }) rfl (by simp [I.ws]) rfl rfl rfl ⟨by simp, ?_, fun n hn => by simpa using hn⟩ ?_ fun st2 K2 e3 e4 hk => ?_, ?_⟩
    · intro q hq
      simp only [List.mem_singleton] at hq
      subst hq
      exact box_get e2 (by simp)
    · intro u hu
      simp only [List.mem_singleton] at hu
      subst hu
      simp [SW.at]
    · have hl := e4.len _ rfl
      have := get_getD (e4.ro _ (List.mem_singleton.2 rfl))
      simp only at this
      simp only [step, hl, evs (gl := gl) e3 (x := x) (fun t ht => ht), e1, this]
      exact ⟨rfl, hk⟩
    · simp only [fpOf, e1]
      refine ⟨by simp, ?_, fun n hn => by simpa using hn, rfl, by simp, by simp, by simp, by simp, by simp⟩
      intro q hq
      simp only [List.mem_singleton] at hq
      subst hq
      left; simp
  · exact h.elim

theorem oi_nx {d : Nat} {x : O} : OI P gl (.nx d x) := by
  intro st K h
  simp only [step] at h
  split at h
  · rename_i j e1
    split at h
    · rename_i e2
      refine ⟨_, { ro := [(j, .itr none)] }, h, .mk1 (E := { ro := [(j, .itr none)] }) rfl (fun _ => ⟨rfl, rfl⟩) rfl rfl rfl ⟨by simp, ?_, by simp⟩ (by simp) fun st2 K2 e3 e4 hk => ?_, ?_⟩
      · intro q hq
        simp only [List.mem_singleton] at hq
        subst hq
        exact box_get e2 (by simp)
      · have := get_getD (e4.ro _ (List.mem_singleton.2 rfl))
        simp only at this
        simp only [step, evs (gl := gl) e3 (x := x) (fun t ht => ht), e1, this]
        exact hk
      · simp only [fpOf, e1, e2]
        refine ⟨by simp, ?_, by simp, rfl, by simp, by simp, by simp, by simp, by simp⟩
        intro q hq
        simp only [List.mem_singleton] at hq
        subst hq
        left; simp
    · rename_i i e2
      split at h
      · rename_i e5
        refine ⟨_, { ro := [(j, .itr (some i)), (i, .map [])] }, h, .mk1 (E := { ro := [(j, .itr (some i)), (i, .map [])] }) rfl (fun _ => ⟨rfl, rfl⟩) rfl rfl rfl ⟨by simp, ?_, by simp⟩ (by simp) fun st2 K2 e3 e4 hk => ?_, ?_⟩
        · intro q hq
          simp only [List.mem_cons, List.not_mem_nil, or_false] at hq
          rcases hq with rfl | rfl
          · exact box_get e2 (by simp)
          · exact box_get e5 (by simp)
        · have h1 := get_getD (e4.ro (j, .itr (some i)) (by simp))
          have h2 := get_getD (e4.ro (i, .map []) (by simp))
          simp only at h1 h2
          simp only [step, evs (gl := gl) e3 (x := x) (fun t ht => ht), e1, h1, h2]
          exact hk
        · simp only [fpOf, e1, e2]
          refine ⟨by simp, ?_, by simp, rfl, by simp, by simp, by simp, by simp, by simp⟩
          intro q hq
          simp only [List.mem_cons, List.not_mem_nil, or_false] at hq
          rcases hq with rfl | rfl <;> left <;> simp
      · exact h.elim
    · exact h.elim
  · exact h.elim

theorem hw_setO {f : Nat → Val} {d : Option Nat} {v : Val} {t : Nat} : (match d with | some k => upd f k v | none => f) t = if d = some t then v else f t := by
  cases d with
  | none => simp
  | some k =>
    simp only [upd_eq, Option.some.injEq]
    by_cases h : t = k
    · simp [h]
    · have : k ≠ t := fun e => h e.symm
      simp [h, this]

theorem setO_mk (tm : Nat → Val) (bx : Nat → Option (List Val)) (s : Store) (d : Option Nat) (v : Val) : (St.mk tm bx s).setO d v = ⟨fun t => if d = some t then v else tm t, bx, s⟩ := by
  cases d with
  | none => simp [St.setO]
  | some k =>
    simp only [St.setO, St.set, St.mk.injEq, and_true]
    funext t
    simp only [upd_eq, Option.some.injEq]
    by_cases h : t = k
    · simp [h]
    · have : k ≠ t := fun e => h e.symm
      simp [h, this]

/-- A result in a slot that may be missing. -/
theorem OutI.mkD {i : I} {d : Option Nat} {v : Val} {E : Eff} {st : St} (hr0 : i.rs = true) (hw0 : i.ws = false → E.ws = [] ∧ E.len = none) (hw : i.hw = d.toList) (hb : i.bwr = []) (hk : E.k = []) (ag : AgreeS E st.s) (hat : ∀ u, u ∈ E.ws → u.at E)
    (re : ∀ (st2 : St) (K2 : St → Prop), (∀ t, t ∈ i.rd → st2.tm t = st.tm t) → AgreeS E st2.s → K2 ({ st2 with s := apps E.ws st2.s }.setO d v) → step (AP P gl) gl i st2 K2) :
    OutI P gl i st ({ st with s := apps E.ws st.s }.setO d v) E := by
  rw [setO_mk]
  refine .mkU (U := fun f t => if d = some t then v else f t) hr0 hw0 hb hk ?_ ?_ ag hat fun st2 K2 e1 e3 hk2 => re st2 K2 e1 e3 ?_
  · intro f t ht
    rw [hw] at ht
    have : d ≠ some t := by rintro rfl; simp at ht
    simp [this]
  · intro f f2 t ht _
    rw [hw] at ht
    have : d = some t := by cases d <;> simp at ht; rw [ht]
    simp [this]
  · rw [setO_mk]; exact hk2

theorem oi_clr {d : Option Nat} {x : O} {z : List Val} : OI P gl (.clr d x z) := by
  have hw : (I.clr d x z).hw = d.toList := by simp [I.hw, I.dst]
  intro st K h
  simp only [step] at h
  split at h
  · rename_i i off len cap sz e1
    split at h
    · rename_i cs e2
      obtain ⟨hg, h⟩ := h
      refine ⟨_, { ro := [(i, .box cs)], ws := [.o i (.box (putCells cs off (List.replicate len z).flatten))] }, h, .mkD (E := { ro := [(i, .box cs)], ws := [.o i (.box (putCells cs off (List.replicate len z).flatten))] }) rfl (by simp [I.ws]) hw rfl rfl ⟨by simp, ?_, by simp⟩ ?_ fun st2 K2 e3 e4 hk => ?_, ?_⟩
      · intro q hq
        simp only [List.mem_singleton] at hq
        subst hq
        exact box_get e2 (by simp)
      · intro u hu
        simp only [List.mem_singleton] at hu
        subst hu
        exact ⟨_, List.mem_singleton.2 rfl, rfl⟩
      · have := get_getD (e4.ro _ (List.mem_singleton.2 rfl))
        simp only at this
        simp only [step, evs (gl := gl) e3 (x := x) (fun t ht => ht), e1, this]
        exact ⟨hg, hk⟩
      · simp only [fpOf, e1]
        refine ⟨by simp, ?_, by simp, rfl, by simp, ?_, by simp, by simp, by simp⟩
        · intro q hq
          simp only [List.mem_singleton] at hq
          subst hq
          left; simp
        · intro i' ob hu
          simp only [List.mem_singleton, SW.o.injEq] at hu
          obtain ⟨rfl, rfl⟩ := hu
          left; simp
    · exact h.elim
  · rename_i v hne
    split at h
    · rename_i sz e1
      refine ⟨_, {}, h, .mkD (E := {}) rfl (by simp [I.ws]) hw rfl rfl ⟨by simp, by simp, by simp⟩ (by simp) fun st2 K2 e3 e4 hk => ?_, ?_⟩
      · simp only [step, evs (gl := gl) e3 (x := x) (fun t ht => ht), e1]
        exact hk
      · simp only [fpOf]
        exact cov_nil
    · exact h.elim

/-! ### Calls -/

def callW : List Nat → List Ob → List SW
  | [], l => l.map .n
  | _, [] => []
  | i :: ids, o :: l => .o i o :: callW ids l

theorem apps_n : ∀ {l : List Ob} {s : Store}, apps (l.map .n) s = s ++ l
  | [], s => by simp [apps]
  | o :: l, s => by simp only [List.map_cons, apps, SW.app]; rw [apps_n]; simp

theorem apps_callW : ∀ {ids : List Nat} {l : List Ob} {s : Store}, ids.length ≤ l.length → apps (callW ids l) s = merge s ids l
  | [], l, s, _ => by
    simp only [callW, apps_n]
    cases l <;> simp [merge]
  | _ :: _, [], _, h => by simp at h
  | i :: ids, o :: l, s, h => by
    simp only [callW, apps, SW.app, merge]
    exact apps_callW (by simpa using h)

theorem callW_mem : ∀ {ids : List Nat} {l : List Ob} {u : SW}, u ∈ callW ids l → (∃ i ob, u = .o i ob ∧ ∃ k : Nat, ids[k]? = some i ∧ l[k]? = some ob) ∨ ∃ ob, u = .n ob
  | [], l, u, h => by
    simp only [callW, List.mem_map] at h
    obtain ⟨o, _, rfl⟩ := h
    exact .inr ⟨o, rfl⟩
  | _ :: _, [], u, h => by simp [callW] at h
  | i :: ids, o :: l, u, h => by
    simp only [callW, List.mem_cons] at h
    rcases h with rfl | h
    · exact .inl ⟨i, o, rfl, 0, by simp, by simp⟩
    · rcases callW_mem h with ⟨j, ob, rfl, k, h1, h2⟩ | h
      · exact .inl ⟨j, ob, rfl, k + 1, by simpa using h1, by simpa using h2⟩
      · exact .inr h

theorem nodup_inj {ids : List Nat} (h : nodupB ids = true) {i k k' : Nat} (h1 : ids[k]? = some i) (h2 : ids[k']? = some i) : k = k' := by
  rw [← nodupB_get h h1, ← nodupB_get h h2]

theorem merge_at {ids : List Nat} {s : Store} {l : List Ob} {i k : Nat} {ob : Ob} (hl : ids.length ≤ l.length) (hn : nodupB ids = true) (hs : ∀ j, j ∈ ids → j < s.length) (h1 : ids[k]? = some i) (h2 : l[k]? = some ob) :
    (merge s ids l).getD i .dead = ob := by
  have hi := hs i (List.mem_of_getElem? h1)
  have hlt : i < (merge s ids l).length := by rw [merge_length hl]; omega
  rw [List.getD_eq_getElem?_getD, List.getElem?_eq_getElem hlt, Option.getD_some]
  rcases merge_get hl hn hs (List.getElem?_eq_getElem hlt) with ⟨k', h3, h4⟩ | ⟨h3, _⟩ | ⟨h3, _⟩
  · rw [nodup_inj hn h1 h3] at h2
    rw [h2] at h4
    simpa using h4.symm
  · exact absurd (List.mem_of_getElem? h1) h3
  · omega

theorem reach_acc (s : Store) : ∀ (n : Nat) (todo acc : List Nat) (i : Nat), i ∈ acc → i ∈ reach s n todo acc
  | 0, _, acc, i, h => by simpa [reach] using h
  | _ + 1, [], acc, i, h => by simpa [reach] using h
  | n + 1, j :: todo, acc, i, h => by
    simp only [reach]
    cases elemB j acc with
    | true => exact reach_acc s n _ _ i h
    | false => exact reach_acc s n _ _ i (List.mem_append_left _ h)

theorem reach_congr {s s2 : Store} : ∀ (n : Nat) (todo acc : List Nat), (∀ i, i ∈ reach s n todo acc → s2.getD i .dead = s.getD i .dead) → reach s2 n todo acc = reach s n todo acc
  | 0, _, acc, h => rfl
  | _ + 1, [], acc, h => rfl
  | n + 1, j :: todo, acc, h => by
    simp only [reach] at h ⊢
    cases hj : elemB j acc with
    | true =>
      rw [hj] at h
      exact reach_congr n _ _ h
    | false =>
      rw [hj] at h
      simp only [cond_false] at h ⊢
      have := h j (reach_acc s n _ _ j (by simp))
      rw [this]
      exact reach_congr n _ _ h

theorem callStep_out {f : Nat} {vs : List Val} {s : Store} {K : Val → Store → Prop} (h : callStep (AP P gl) f vs s K) :
    ∃ r s' ws, K r s' ∧ s' = apps ws s ∧
      (∀ q, q ∈ (reach s (s.length + s.length + 8) (vs.flatMap (refs depth)) []).map (fun i => (i, s.getD i .dead)) → s[q.1]? = some q.2) ∧
      (∀ i ob, SW.o i ob ∈ ws → i ∈ reach s (s.length + s.length + 8) (vs.flatMap (refs depth)) [] ∧ s'.getD i .dead = ob) ∧
      (∀ i off v, SW.c i off v ∉ ws) ∧
      ∀ (s2 : Store) (K2 : Val → Store → Prop), s2.length = s.length → (∀ i, i ∈ reach s (s.length + s.length + 8) (vs.flatMap (refs depth)) [] → s2.getD i .dead = s.getD i .dead) → K2 r (apps ws s2) → callStep (AP P gl) f vs s2 K2 := by
  unfold callStep at h
  obtain ⟨hg, r, s', hv, hlen, hK⟩ := h
  have hg' := hg
  simp only [Bool.and_eq_true] at hg'
  obtain ⟨⟨⟨g1, g2⟩, g3⟩, g4⟩ := hg'
  have hlt : ∀ i, i ∈ reach s (s.length + s.length + 8) (vs.flatMap (refs depth)) [] → i < s.length := by
    intro i hi
    unfold refsOk at g1
    simpa [Nat.blt_eq] using List.all_eq_true.1 g1 i hi
  have hl := Nat.le_of_ble_eq_true hlen
  refine ⟨_, _, callW (reach s (s.length + s.length + 8) (vs.flatMap (refs depth)) []) (s'.map (Ob.ren (back (reach s (s.length + s.length + 8) (vs.flatMap (refs depth)) []) s.length))), hK, (apps_callW (by simpa using hl)).symm, ?_, ?_, ?_, ?_⟩
  · intro q hq
    simp only [List.mem_map] at hq
    obtain ⟨i, hi, rfl⟩ := hq
    rw [List.getD_eq_getElem?_getD, List.getElem?_eq_getElem (hlt i hi)]; rfl
  · intro i ob hu
    rcases callW_mem hu with ⟨i', ob', he, k, h1, h2⟩ | ⟨ob', he⟩
    · simp only [SW.o.injEq] at he
      obtain ⟨rfl, rfl⟩ := he
      exact ⟨List.mem_of_getElem? h1, merge_at (by simpa using hl) g2 hlt h1 h2⟩
    · simp at he
  · intro i off v hu
    rcases callW_mem hu with ⟨i', ob', he, _⟩ | ⟨ob', he⟩ <;> simp at he
  · intro s2 K2 hs2 hget hk2
    have hr := reach_congr (s.length + s.length + 8) (vs.flatMap (refs depth)) [] hget
    have hm : (reach s (s.length + s.length + 8) (vs.flatMap (refs depth)) []).map (fun i => (s2.getD i .dead).ren fun i => idxIn i (reach s (s.length + s.length + 8) (vs.flatMap (refs depth)) [])) = (reach s (s.length + s.length + 8) (vs.flatMap (refs depth)) []).map (fun i => (s.getD i .dead).ren fun i => idxIn i (reach s (s.length + s.length + 8) (vs.flatMap (refs depth)) [])) := by
      refine List.map_congr_left fun i hi => ?_
      rw [hget i hi]
    have hc : closed s2 (reach s (s.length + s.length + 8) (vs.flatMap (refs depth)) []) vs = closed s (reach s (s.length + s.length + 8) (vs.flatMap (refs depth)) []) vs := by
      unfold closed
      congr 1
      rw [Bool.eq_iff_iff, List.all_eq_true, List.all_eq_true]
      constructor
      · intro h i hi; rw [← hget i hi]; exact h i hi
      · intro h i hi; rw [hget i hi]; exact h i hi
    unfold callStep
    simp only [hs2, hr, hm, hc]
    refine ⟨?_, r, s', hv, hlen, ?_⟩
    · simp only [Bool.and_eq_true]; exact ⟨⟨⟨g1, g2⟩, g3⟩, g4⟩
    · rw [apps_callW (by simpa using hl)] at hk2; exact hk2

end
end Go.Vm
end

section
/- A run of an instruction: calls, appends; all. Conditions: none. -/
set_option linter.unusedSimpArgs false
namespace Go.Vm

section
variable {P : Program} {gl : Nat → List D}

theorem argV_eq {st st2 : St} {x : O} (h : ev gl st2 x = ev gl st x) : argV gl st2 x = argV gl st x := by
  unfold argV
  split
  · rfl
  · rw [h]

theorem cl_out {d : Option Nat} {f : O} {args : List O} {st : St} {K : St → Prop} (f' : Nat) (vs : List Val) (h : callStep (AP P gl) f' vs st.s fun r s' => K ({ st with s := s' }.setO d r))
    (hst : ∀ (st2 : St) (K2 : St → Prop), (∀ t, t ∈ (I.cl d f args).rd → st2.tm t = st.tm t) → step (AP P gl) gl (.cl d f args) st2 K2 = callStep (AP P gl) f' vs st2.s fun r s' => K2 ({ st2 with s := s' }.setO d r))
    (hfp : ∀ st', fpOf gl (.cl d f args) st st' = fpCall st st' vs) : ∃ st' E, K st' ∧ OutI P gl (.cl d f args) st st' E ∧ Cov E (fpOf gl (.cl d f args) st st') := by
  obtain ⟨r, s', ws, hK, rfl, hro, hwo, hwc, hre⟩ := callStep_out h
  refine ⟨_, { ro := (reach st.s (st.s.length + st.s.length + 8) (vs.flatMap (refs depth)) []).map (fun i => (i, st.s.getD i .dead)), len := some st.s.length, ws := ws }, hK,
    .mkD (E := { ro := (reach st.s (st.s.length + st.s.length + 8) (vs.flatMap (refs depth)) []).map (fun i => (i, st.s.getD i .dead)), len := some st.s.length, ws := ws }) rfl (by simp [I.ws]) (by simp [I.hw, I.dst]) rfl rfl ⟨by simp, hro, fun n hn => by simpa using hn⟩ ?_ fun st2 K2 e3 e4 hk => ?_, ?_⟩
  · intro u hu
    cases u with
    | c i off v => exact absurd hu (hwc i off v)
    | o i ob => exact ⟨(i, st.s.getD i .dead), List.mem_map.2 ⟨i, (hwo i ob hu).1, rfl⟩, rfl⟩
    | n ob => simp [SW.at]
  · rw [hst st2 K2 e3]
    refine hre st2.s _ (e4.len _ rfl) (fun i hi => ?_) hk
    exact get_getD (e4.ro (i, st.s.getD i .dead) (List.mem_map.2 ⟨i, hi, rfl⟩))
  · rw [hfp]
    unfold fpCall
    have hs : (({ st with s := apps ws st.s } : St).setO d r).s = apps ws st.s := by rw [setO_mk]
    refine ⟨by simp, ?_, fun n hn => by simpa using hn, rfl, ?_, ?_, by simp, by simp, by simp⟩
    · intro q hq
      simp only [List.mem_map] at hq
      obtain ⟨i, hi, rfl⟩ := hq
      exact .inr ⟨_, _, _, rfl, hi⟩
    · intro i off v hu; exact absurd hu (hwc i off v)
    · intro i ob hu
      refine .inr ⟨_, _, _, rfl, (hwo i ob hu).1, ?_, List.mem_map.2 ⟨i, (hwo i ob hu).1, rfl⟩⟩
      rw [hs]; exact (hwo i ob hu).2

theorem oi_cl {d : Option Nat} {f : O} {args : List O} : OI P gl (.cl d f args) := by
  intro st K h
  have em : ∀ {st2 : St}, (∀ t, t ∈ (I.cl d f args).rd → st2.tm t = st.tm t) → ev gl st2 f = ev gl st f ∧ args.map (argV gl st2) = args.map (argV gl st) := by
    intro st2 e
    refine ⟨evs (gl := gl) e (fun t ht => List.mem_append_left _ ht), List.map_congr_left fun x hx => argV_eq (evs (gl := gl) e (fun t ht => List.mem_append_right _ (List.mem_flatMap.2 ⟨x, hx, ht⟩)))⟩
  simp only [step] at h
  split at h
  · rename_i f' e1
    exact cl_out f' _ h (fun st2 K2 e => by simp only [step, (em e).1, (em e).2, e1]) (fun st' => by simp only [fpOf, e1])
  · rename_i f' a c e1
    exact cl_out f' _ h (fun st2 K2 e => by simp only [step, (em e).1, (em e).2, e1]) (fun st' => by simp only [fpOf, e1])
  · exact h.elim

/-! ### Appends -/

def roV (st : St) (v : Val) : List (Nat × Ob) := match v with
  | .sl i _ _ _ _ => [(i, st.s.getD i .dead)]
  | _ => []

theorem srcOf_eq {st st2 : St} {v : Val} {sz : Nat} (h : ∀ q, q ∈ roV st v → st2.s[q.1]? = some q.2) : srcOf st2 v sz = srcOf st v sz := by
  cases v <;> simp only [srcOf]
  rename_i i off len cap sz2
  rw [get_getD (h (i, st.s.getD i .dead) (by simp [roV]))]

theorem listX_eq {st st2 : St} {v : Val} (h : ∀ q, q ∈ roV st v → st2.s[q.1]? = some q.2) : listX st2 v = listX st v := by
  cases v <;> simp only [listX]
  rename_i i off len cap sz2
  rw [get_getD (h (i, st.s.getD i .dead) (by simp [roV]))]

theorem srcOf_ro {st : St} {v : Val} {sz : Nat} {p : List Val × Nat} (h : srcOf st v sz = some p) : ∀ q, q ∈ roV st v → st.s[q.1]? = some q.2 := by
  intro q hq
  cases v <;> simp only [roV, List.not_mem_nil, List.mem_singleton] at hq
  subst hq
  simp only [srcOf] at h
  split at h
  · rename_i cs e; rw [e]; exact box_get e (by simp)
  · simp at h

theorem listX_ro {st : St} {v : Val} {p : Nat × List D} (h : listX st v = some p) : ∀ q, q ∈ roV st v → st.s[q.1]? = some q.2 := by
  intro q hq
  cases v <;> simp only [roV, List.not_mem_nil, List.mem_singleton] at hq
  subst hq
  simp only [listX] at h
  split at h
  · rename_i cs e; rw [e]; exact box_get e (by simp)
  · simp at h

theorem roV_src {st : St} {v : Val} {q : Nat × Ob} (h : q ∈ roV st v) : (q.1, 0, big) ∈ fpSrc v := by
  cases v <;> simp only [roV, List.not_mem_nil, List.mem_singleton] at h
  subst h
  simp [fpSrc]

theorem ap_out {i : I} {nw : Bool} {d s : Nat} {x : O} {sz bnd : Nat} (hrs : i.rs = true) (hws : i.ws = true) (hb : i.bwr = []) (hw : i.hw = [d, s]) (hrd : i.rd = s :: x.slots)
    (hst : ∀ (st : St) (K : St → Prop), step (AP P gl) gl i st K = apStep (AP P gl) gl nw d s x sz bnd st K)
    (hfp : ∀ st st', fpOf gl i st st' = match st.tm s with
      | .sl i _ _ _ _ => { r := fpSrc (ev gl st x), w := [(i, 0, big)], a := some st.s.length }
      | _ => { r := fpSrc (ev gl st x), a := some st.s.length }) : OI P gl i := by
  intro st K h
  rw [hst] at h
  have h1 : ∀ {v : Val} (f : Nat → Val) t, t ∉ i.hw → upd f d v t = f t := by
    intro v f t ht
    rw [hw] at ht
    simp only [List.mem_cons, List.not_mem_nil, or_false, not_or] at ht
    simp only [upd_eq, ht.1, if_false]
  have h2 : ∀ {v : Val} (f f2 : Nat → Val) t, t ∈ i.hw → (∀ t, t ∈ i.rd → f2 t = f t) → upd f2 d v t = upd f d v t := by
    intro v f f2 t ht hh
    rw [hw] at ht
    simp only [List.mem_cons, List.not_mem_nil, or_false] at ht
    simp only [upd_eq]
    split
    · rfl
    · rename_i hne
      exact hh t (by rw [hrd, ht.resolve_left hne]; simp)
  have k1 : ∀ {v : Val} (f : Nat → Val) t, t ∉ i.hw → upd (upd f s .undef) d v t = f t := by
    intro v f t ht
    rw [hw] at ht
    simp only [List.mem_cons, List.not_mem_nil, or_false, not_or] at ht
    simp only [upd_eq, ht.1, ht.2, if_false]
  have k2 : ∀ {v : Val} (f f2 : Nat → Val) t, t ∈ i.hw → (∀ t, t ∈ i.rd → f2 t = f t) → upd (upd f2 s .undef) d v t = upd (upd f s .undef) d v t := by
    intro v f f2 t ht _
    rw [hw] at ht
    simp only [List.mem_cons, List.not_mem_nil, or_false] at ht
    simp only [upd_eq]
    split
    · rfl
    · rename_i hne
      simp [ht.resolve_left hne]
  have es : ∀ {st2 : St}, (∀ t, t ∈ i.rd → st2.tm t = st.tm t) → st2.tm s = st.tm s ∧ ev gl st2 x = ev gl st x := fun e => ⟨e s (by rw [hrd]; simp), evs (gl := gl) e (fun t ht => by rw [hrd]; exact List.mem_cons_of_mem _ ht)⟩
  have hw0 : ∀ {E : Eff}, i.ws = false → E.ws = [] ∧ E.len = none := fun h => by rw [hws] at h; simp at h
  unfold apStep at h
  split at h
  · rename_i sz1 l e1
    have hfp' : ∀ st', fpOf gl i st st' = { r := fpSrc (ev gl st x), a := some st.s.length } := fun st' => by rw [hfp, e1]
    have cov0 : ∀ st', Cov { ro := roV st (ev gl st x) } (fpOf gl i st st') := by
      intro st'
      rw [hfp']
      exact ⟨by simp, fun q hq => .inl (List.mem_append_left _ (roV_src hq)), by simp, rfl, by simp, by simp, by simp, by simp, by simp⟩
    cases hnw : nw && l.isEmpty with
    | true =>
      rw [hnw] at h
      simp only [cond_true] at h
      split at h
      · rename_i cs e2
        refine ⟨_, { ro := roV st (ev gl st x) }, h, .mkU (U := fun f => upd f d (.own sz [])) (E := { ro := roV st (ev gl st x) }) hrs hw0 hb rfl h1 h2 ⟨by simp, srcOf_ro e2, by simp⟩ (by simp) fun st2 K2 e3 e4 hk => ?_, cov0 _⟩
        rw [hst]
        unfold apStep
        simp only [(es e3).1, (es e3).2, e1, hnw, srcOf_eq e4.ro, e2, cond_true]
        exact hk
      · rename_i cs k hne e2
        obtain ⟨hg, h⟩ := h
        refine ⟨_, { ro := roV st (ev gl st x), len := some st.s.length, ws := [.n (.box cs)] }, h, .mkU (U := fun f => upd f d (.sl st.s.length 0 k k sz)) (E := { ro := roV st (ev gl st x), len := some st.s.length, ws := [.n (.box cs)] }) hrs hw0 hb rfl h1 h2 ⟨by simp, srcOf_ro e2, fun n hn => by simpa using hn⟩ ?_ fun st2 K2 e3 e4 hk => ?_, ?_⟩
        · intro u hu
          simp only [List.mem_singleton] at hu
          subst hu
          simp [SW.at]
        · rw [hst]
          unfold apStep
          simp only [(es e3).1, (es e3).2, e1, hnw, srcOf_eq e4.ro, e2, cond_true, e4.len _ rfl]
          cases k with
          | zero => exact (hne rfl).elim
          | succ k => exact ⟨hg, hk⟩
        · rw [hfp']
          exact ⟨by simp, fun q hq => .inl (List.mem_append_left _ (roV_src hq)), fun n hn => by simpa using hn, rfl, by simp, by simp, by simp, by simp, by simp⟩
      · exact h.elim
    | false =>
      rw [hnw] at h
      simp only [cond_false] at h
      split at h
      · rename_i sz2 l2 e2
        obtain ⟨hg, h⟩ := h
        refine ⟨_, { ro := roV st (ev gl st x) }, h, .mkU (U := fun f => upd (upd f s .undef) d (.own sz (l ++ l2))) (E := { ro := roV st (ev gl st x) }) hrs hw0 hb rfl k1 k2 ⟨by simp, listX_ro e2, by simp⟩ (by simp) fun st2 K2 e3 e4 hk => ?_, cov0 _⟩
        rw [hst]
        unfold apStep
        simp only [(es e3).1, (es e3).2, e1, hnw, listX_eq e4.ro, e2, cond_false]
        exact ⟨hg, hk⟩
      · exact h.elim
  · rename_i j off len cap sz1 e1
    have hfp' : ∀ st', fpOf gl i st st' = { r := fpSrc (ev gl st x), w := [(j, 0, big)], a := some st.s.length } := fun st' => by rw [hfp, e1]
    split at h
    · rename_i cs us k e5 e2
      obtain ⟨hg, h⟩ := h
      have hro : ∀ q, q ∈ (j, Ob.box cs) :: roV st (ev gl st x) → st.s[q.1]? = some q.2 := by
        intro q hq
        rcases List.mem_cons.1 hq with rfl | hq
        · exact box_get e5 (by simp)
        · exact srcOf_ro e2 q hq
      have hcr : ∀ q, q ∈ (j, Ob.box cs) :: roV st (ev gl st x) → (q.1, 0, big) ∈ fpSrc (ev gl st x) ++ [(j, 0, big)] := by
        intro q hq
        rcases List.mem_cons.1 hq with rfl | hq
        · simp
        · exact List.mem_append_left _ (roV_src hq)
      cases hcap : Nat.ble (len + k) cap with
      | true =>
        rw [hcap] at h
        obtain ⟨hg2, h⟩ := h
        refine ⟨_, { ro := (j, .box cs) :: roV st (ev gl st x), ws := [.o j (.box (putCells cs (off + len * sz) us))] }, h, .mkU (U := fun f => upd f d (.sl j off (len + k) cap sz)) (E := { ro := (j, .box cs) :: roV st (ev gl st x), ws := [.o j (.box (putCells cs (off + len * sz) us))] }) hrs hw0 hb rfl h1 h2 ⟨by simp, hro, by simp⟩ ?_ fun st2 K2 e3 e4 hk => ?_, ?_⟩
        · intro u hu
          simp only [List.mem_singleton] at hu
          subst hu
          exact ⟨_, List.mem_cons_self, rfl⟩
        · rw [hst]
          unfold apStep
          have f1 := get_getD (e4.ro _ List.mem_cons_self)
          simp only at f1
          simp only [(es e3).1, (es e3).2, e1, srcOf_eq (fun q hq => e4.ro q (List.mem_cons_of_mem _ hq)), e2, f1, hcap]
          exact ⟨hg, hg2, hk⟩
        · rw [hfp']
          refine ⟨by simp, fun q hq => .inl (hcr q hq), by simp, rfl, by simp, ?_, by simp, by simp, by simp⟩
          intro i' ob hu
          simp only [List.mem_singleton, SW.o.injEq] at hu
          obtain ⟨rfl, rfl⟩ := hu
          left; simp
      | false =>
        rw [hcap] at h
        obtain ⟨hg2, h⟩ := h
        refine ⟨_, { ro := (j, .box cs) :: roV st (ev gl st x), len := some st.s.length, ws := [.o j .dead, .n (.box (cs.take (len * sz) ++ us))] }, h, .mkU (U := fun f => upd f d (.sl st.s.length 0 (len + k) (len + k) sz)) (E := { ro := (j, .box cs) :: roV st (ev gl st x), len := some st.s.length, ws := [.o j .dead, .n (.box (cs.take (len * sz) ++ us))] }) hrs hw0 hb rfl h1 h2 ⟨by simp, hro, fun n hn => by simpa using hn⟩ ?_ fun st2 K2 e3 e4 hk => ?_, ?_⟩
        · intro u hu
          simp only [List.mem_cons, List.not_mem_nil, or_false] at hu
          rcases hu with rfl | rfl
          · exact ⟨_, List.mem_cons_self, rfl⟩
          · simp [SW.at]
        · rw [hst]
          unfold apStep
          have f1 := get_getD (e4.ro _ List.mem_cons_self)
          simp only at f1
          simp only [(es e3).1, (es e3).2, e1, srcOf_eq (fun q hq => e4.ro q (List.mem_cons_of_mem _ hq)), e2, f1, hcap, e4.len _ rfl]
          exact ⟨hg, hg2, hk⟩
        · rw [hfp']
          refine ⟨by simp, fun q hq => .inl (hcr q hq), fun n hn => by simpa using hn, rfl, by simp, ?_, by simp, by simp, by simp⟩
          intro i' ob hu
          simp only [List.mem_cons, List.not_mem_nil, or_false, SW.o.injEq, reduceCtorEq] at hu
          obtain ⟨rfl, rfl⟩ := hu
          left; simp
    · exact h.elim
  · exact h.elim

theorem oi_ap {d s : Nat} {x : O} {sz bnd : Nat} : OI P gl (.ap d s x sz bnd) := ap_out rfl rfl rfl rfl rfl (fun _ _ => rfl) (fun _ _ => rfl)
theorem oi_apn {d s : Nat} {x : O} {sz bnd : Nat} : OI P gl (.apn d s x sz bnd) := ap_out rfl rfl rfl rfl rfl (fun _ _ => rfl) (fun _ _ => rfl)

/-- All but those that make an object with a place ahead. -/
theorem oi_all {i : I} (h2 : twoWays i = false) (ha : isAlloc i = false) : OI P gl i := by
  cases i
  case asg => exact oi_asg
  case ls => exact oi_ls
  case hl => exact oi_hl
  case ht => exact oi_ht
  case hs => exact oi_hs
  case lk => exact oi_lk
  case mu => exact oi_mu
  case cl => exact oi_cl
  case ap => exact oi_ap
  case apn => exact oi_apn
  case lob => exact oi_lob
  case hx => exact oi_hx
  case rg => exact oi_rg
  case nx => exact oi_nx
  case clr => exact oi_clr
  all_goals first
    | exact oi_ns h2 rfl rfl (fun _ _ => rfl)
    | simp [isAlloc] at ha

end
end Go.Vm
end

section
/- Regions that draw their order: runs that may change places. Conditions: none. -/
set_option linter.unusedSimpArgs false
namespace Go.Vm

section
variable {P : Program} {gl : Nat → List D}

theorem hw_sub {i : I} {t : Nat} (h : t ∈ i.hw) : i.dst = some t ∨ t ∈ i.rd := by
  unfold I.hw at h
  rcases List.mem_append.1 h with h | h
  · left
    cases hd : i.dst with
    | none => rw [hd] at h; simp at h
    | some d => rw [hd] at h; simp only [Option.toList_some, List.mem_singleton] at h; rw [h]
  · right
    cases i <;> simp only [List.not_mem_nil] at h <;> simp only [List.mem_singleton] at h <;> simp [I.rd, h]
theorem kl_sub {i : I} {t : Nat} (h : t ∈ i.kl) : t ∈ i.rd := by
  cases i <;> simp only [I.kl, List.not_mem_nil] at h
  · exact h
  · exact List.mem_append_right _ h
  · exact List.mem_append_right _ h
theorem bwr_sub {i : I} {t : Nat} (h : t ∈ i.bwr) : t ∈ i.brd := by
  cases i <;> simp [I.bwr, I.brd] at h ⊢ <;> exact h
theorem ws_rs {i : I} (h : i.ws = true) : i.rs = true := by
  cases i <;> simp [I.ws, I.rs] at h ⊢
theorem dst_hw {i : I} {d : Nat} (h : i.dst = some d) : d ∈ i.hw := by
  unfold I.hw; rw [h]; simp
theorem rd_g {g : GI} {t : Nat} (h : t ∈ g.i.rd) : t ∈ g.rd := by unfold GI.rd; exact List.mem_append_right _ h

/-- A run's one outcome, where objects have their place ahead. -/
structure OutG (P : Program) (gl : Nat → List D) (id : Nat) (g : GI) (st st' : St) (E : Eff) : Prop where
  tm : ∀ t, t ∉ g.i.hw → t ∉ E.k → st'.tm t = st.tm t
  bx : ∀ t, t ∉ g.i.bwr → st'.bx t = st.bx t
  s : st'.s = apps E.ws st.s
  ag : AgreeS E st.s
  k : ∀ t, t ∈ E.k → t ∈ g.i.kl
  at_ : ∀ u, u ∈ E.ws → u.at E
  r0 : g.i.rs = false → E.rd = [] ∧ E.ro = [] ∧ E.len = none
  w0 : g.i.ws = false → E.ws = [] ∧ E.len = none
  re : ∀ (st2 : St) (K2 : St → Prop), (∀ t, t ∈ g.rd → st2.tm t = st.tm t) → (∀ t, t ∈ g.i.brd → st2.bx t = st.bx t) → AgreeS E st2.s → K2 (mixE g.i E st2 st') → stepR (AP P gl) gl id g st2 K2

theorem setO_tm (st : St) (d : Option Nat) (v : Val) (t : Nat) : (st.setO d v).tm t = if d = some t then v else st.tm t := by
  obtain ⟨a, b, c⟩ := st
  rw [setO_mk]
theorem setO_bx (st : St) (d : Option Nat) (v : Val) : (st.setO d v).bx = st.bx := by cases d <;> rfl
theorem setO_s (st : St) (d : Option Nat) (v : Val) : (st.setO d v).s = st.s := by cases d <;> rfl

theorem mixE_self {id : Nat} {g : GI} {st st' : St} {E : Eff} (h : OutG P gl id g st st' E) : mixE g.i E st st' = st' := by
  refine mixE_eq (fun t => ?_) (fun t => ?_) h.s.symm
  · split
    · rfl
    · rename_i hn
      simp only [not_or] at hn
      exact (h.tm t hn.1 hn.2).symm
  · split
    · rfl
    · rename_i hn; exact (h.bx t hn).symm

theorem OutG.mono {id : Nat} {g : GI} {st st' : St} {E : Eff} (h : OutG P gl id g st st' E) {K : St → Prop} (hk : K st') : stepR (AP P gl) gl id g st K :=
  h.re st K (fun _ _ => rfl) (fun _ _ => rfl) h.ag (by rw [mixE_self h]; exact hk)

theorem skip_out {id : Nat} {g : GI} {st : St} (ha : isAlloc g.i = false) (hre : ∀ (st2 : St) (K2 : St → Prop), (∀ t, t ∈ g.rd → st2.tm t = st.tm t) → K2 (st2.setO g.i.dst (.tuple [])) → step1 (AP P gl) gl g st2 K2) :
    OutG P gl id g st (st.setO g.i.dst (.tuple [])) {} := by
  refine ⟨fun t ht _ => ?_, fun t _ => by rw [setO_bx], by rw [setO_s]; rfl, ⟨by simp, by simp, by simp⟩, by simp, by simp, fun _ => ⟨rfl, rfl, rfl⟩, fun _ => ⟨rfl, rfl⟩, fun st2 K2 e1 e2 _ hk => ?_⟩
  · rw [setO_tm, if_neg]; exact fun h => ht (dst_hw h)
  · unfold stepR
    rw [ha]
    refine hre st2 K2 e1 ?_
    have : mixE g.i {} st2 (st.setO g.i.dst (.tuple [])) = st2.setO g.i.dst (.tuple []) := by
      refine mixE_eq (fun t => ?_) (fun t => ?_) (by rw [setO_s]; rfl)
      · rw [setO_tm, setO_tm]
        by_cases h : g.i.dst = some t
        · simp [h, dst_hw h]
        · simp only [h, if_false, List.not_mem_nil, or_false]
          split
          · rename_i hw
            rcases hw_sub hw with h' | h'
            · exact absurd h' h
            · exact (e1 t (rd_g h')).symm
          · rfl
      · rw [setO_bx, setO_bx]
        split
        · rename_i hw; exact (e2 t (bwr_sub hw)).symm
        · rfl
    rwa [this] at hk

theorem OutI.toG {id : Nat} {g : GI} {st st' : St} {E : Eff} (ha : isAlloc g.i = false) (h : OutI P gl g.i st st' E)
    (hre : ∀ (st2 : St) (K2 : St → Prop), (∀ t, t ∈ g.rd → st2.tm t = st.tm t) → step (AP P gl) gl g.i st2 K2 → step1 (AP P gl) gl g st2 K2) : OutG P gl id g st st' E := by
  refine ⟨h.tm, h.bx, h.s, h.ag, h.k, h.at_, h.r0, h.w0, fun st2 K2 e1 e2 e3 hk => ?_⟩
  unfold stepR
  rw [ha]
  exact hre st2 K2 e1 (h.re st2 K2 (fun t ht => e1 t (rd_g ht)) e2 e3 hk)

theorem allocOf_spec {i : I} {st : St} {o : Ob} {d : Nat} {v : Nat → Val} (h : allocOf gl i st = some (o, d, v)) : i.hw = [d] ∧ i.bwr = [] ∧ i.rs = true ∧ i.ws = true ∧ i.dst = some d ∧
    ∀ st2 : St, (∀ t, t ∈ i.rd → st2.tm t = st.tm t) → allocOf gl i st2 = some (o, d, v) := by
  cases i <;> simp only [allocOf, reduceCtorEq] at h
  case ha d' z =>
    simp only [Option.some.injEq, Prod.mk.injEq] at h
    obtain ⟨h1, h2, h3⟩ := h
    refine ⟨by simp [I.hw, I.dst, h2], rfl, rfl, rfl, by simp [I.dst, h2], fun st2 _ => by simp [allocOf, h1, h2, h3]⟩
  case mm d' =>
    simp only [Option.some.injEq, Prod.mk.injEq] at h
    obtain ⟨h1, h2, h3⟩ := h
    refine ⟨by simp [I.hw, I.dst, h2], rfl, rfl, rfl, by simp [I.dst, h2], fun st2 _ => by simp [allocOf, h1, h2, h3]⟩
  case hb d' x n =>
    have hd : d' = d := by
      revert h
      generalize (Nat.beq (cellsOf (snapN (ev gl st x))).length n && (cellsOf (snapN (ev gl st x))).all (noL depth)) = b
      cases b <;> simp
      intro _ h _; exact h
    refine ⟨by simp [I.hw, I.dst, hd], rfl, rfl, rfl, by simp [I.dst, hd], fun st2 e => ?_⟩
    simp only [allocOf, evs (gl := gl) e (x := x) (fun t ht => ht)]
    exact h
  case mk d' sz z n bnd =>
    have hd : d' = d := by
      revert h
      split
      · rename_i k n' e1
        generalize (decide (0 ≤ n') && decide (n' ≤ (bnd : Int))) = b
        cases b <;> simp
        intro _ h _; exact h
      · simp
    refine ⟨by simp [I.hw, I.dst, hd], rfl, rfl, rfl, by simp [I.dst, hd], fun st2 e => ?_⟩
    simp only [allocOf, evs (gl := gl) e (x := n) (fun t ht => ht)]
    exact h

theorem og_all {id : Nat} {g : GI} (h2 : twoWays g.i = false) {st : St} {K : St → Prop} (h : stepR (AP P gl) gl id g st K) :
    ∃ st' E, K st' ∧ OutG P gl id g st st' E ∧ Cov E (fpR gl id g st st') := by
  cases ha : isAlloc g.i with
  | true =>
    unfold stepR at h
    rw [ha] at h
    simp only [cond_true] at h
    split at h
    · rename_i o d v e1 e2
      obtain ⟨hg, h⟩ := h
      have hlt : id < st.s.length := by simpa [Nat.blt_eq] using hg
      obtain ⟨a1, a2, a3, a4, a5, a6⟩ := allocOf_spec e2
      have hrd : g.rd = g.i.rd := by unfold GI.rd; rw [e1]; rfl
      refine ⟨_, { ro := [(id, st.s.getD id .dead)], ws := [.o id o] }, h, ⟨fun t ht _ => ?_, fun t _ => rfl, rfl, ⟨by simp, ?_, by simp⟩, by simp, ?_, fun hr => by rw [a3] at hr; simp at hr, fun hr => by rw [a4] at hr; simp at hr, fun st2 K2 f1 f2 f3 hk => ?_⟩, ?_⟩
      · rw [a1] at ht
        simp only [List.mem_singleton] at ht
        simp only [St.set, upd_eq, ht, if_false]
      · intro q hq
        simp only [List.mem_singleton] at hq
        subst hq
        simp only
        rw [List.getD_eq_getElem?_getD, List.getElem?_eq_getElem hlt]; rfl
      · intro u hu
        simp only [List.mem_singleton] at hu
        subst hu
        exact ⟨_, List.mem_singleton.2 rfl, rfl⟩
      · have hlt2 : id < st2.s.length := (List.getElem?_eq_some_iff.1 (f3.ro _ (List.mem_singleton.2 rfl))).1
        unfold stepR
        rw [ha]
        simp only [cond_true, e1, a6 st2 (fun t ht => f1 t (rd_g ht))]
        refine ⟨by simpa [Nat.blt_eq] using hlt2, ?_⟩
        have : mixE g.i { ro := [(id, st.s.getD id .dead)], ws := [.o id o] } st2 ({ st with s := st.s.set id o }.set d (v id)) = { st2 with s := st2.s.set id o }.set d (v id) := by
          refine mixE_eq (fun t => ?_) (fun t => by simp [a2, St.set]) rfl
          simp only [a1, List.mem_singleton, List.not_mem_nil, or_false, St.set, upd_eq]
          split <;> rfl
        rwa [this] at hk
      · unfold fpR
        rw [ha]
        simp only [cond_true]
        refine ⟨by simp, ?_, by simp, rfl, by simp, ?_, by simp, by simp, by simp⟩
        · intro q hq
          simp only [List.mem_singleton] at hq
          subst hq
          left; simp
        · intro i' ob hu
          simp only [List.mem_singleton, SW.o.injEq] at hu
          obtain ⟨rfl, rfl⟩ := hu
          left; simp
    · exact h.elim
  | false =>
    have hfp : ∀ st', fpR gl id g st st' = fpG gl g st st' := fun st' => by unfold fpR; rw [ha]; rfl
    unfold stepR at h
    rw [ha] at h
    simp only [cond_false] at h
    unfold step1 at h
    split at h
    · rename_i e1
      obtain ⟨st', E, k1, k2, k3⟩ := oi_all (P := P) (gl := gl) h2 ha st K h
      refine ⟨st', E, k1, k2.toG ha fun st2 K2 _ hs => ?_, ?_⟩
      · unfold step1; rw [e1]; exact hs
      · rw [hfp]; unfold fpG; rw [e1]; exact k3
    · rename_i s want e1
      have hsm : ∀ {st2 : St}, (∀ t, t ∈ g.rd → st2.tm t = st.tm t) → st2.tm s = st.tm s := fun e => e s (by unfold GI.rd; rw [e1]; simp)
      split at h
      · rename_i b hb
        cases hc : cond want b (!b) with
        | true =>
          rw [hc] at h
          simp only [cond_true] at h
          obtain ⟨st', E, k1, k2, k3⟩ := oi_all (P := P) (gl := gl) h2 ha st K h
          refine ⟨st', E, k1, k2.toG ha fun st2 K2 e hs => ?_, ?_⟩
          · unfold step1; rw [e1]; simp only [hsm e, hb, hc]; exact hs
          · rw [hfp]; unfold fpG; rw [e1]; simp only [hb, hc]; exact k3
        | false =>
          rw [hc] at h
          simp only [cond_false] at h
          refine ⟨_, {}, h, skip_out ha fun st2 K2 e hs => ?_, ?_⟩
          · unfold step1; rw [e1]; simp only [hsm e, hb, hc]; exact hs
          · rw [hfp]; unfold fpG; rw [e1]; simp only [hb, hc]; exact cov_nil
      · rename_i hb
        refine ⟨_, {}, h, skip_out ha fun st2 K2 e hs => ?_, ?_⟩
        · unfold step1; rw [e1]; simp only [hsm e, hb]; exact hs
        · rw [hfp]; unfold fpG; rw [e1]; simp only [hb]; exact cov_nil
      · exact h.elim

/-! ### Chains -/

structure T where
  id : Nat
  g : GI
  E : Eff

def Chn (P : Program) (gl : Nat → List D) : List T → St → (St → Prop) → Prop
  | [], st, K => K st
  | t :: l, st, K => ∃ st', OutG P gl t.id t.g st st' t.E ∧ Chn P gl l st' K

structure IndT (x y : T) : Prop where
  h : indepH x.g y.g = true
  k1 : ∀ t, t ∈ x.E.k → t ∉ y.g.rd ∧ t ∉ y.g.i.hw
  k2 : ∀ t, t ∈ y.E.k → t ∉ x.g.rd ∧ t ∉ x.g.i.hw
  e : IndE x.E y.E

theorem disj_spec {a b : List Nat} (h : disj a b = true) : ∀ t, t ∈ a → t ∉ b := by
  intro t ht hb
  have := List.all_eq_true.1 h t ht
  simp only [Bool.not_eq_true'] at this
  rw [elemB_iff.2 hb] at this
  simp at this

theorem chn_swap {x y : T} {l : List T} {st : St} {K : St → Prop} (hi : IndT x y) (h : Chn P gl (x :: y :: l) st K) : Chn P gl (y :: x :: l) st K := by
  obtain ⟨s1, o1, s2, o2, hl⟩ := h
  have hH := hi.h
  unfold indepH at hH
  simp only [Bool.and_eq_true] at hH
  obtain ⟨⟨⟨d1, d2⟩, d3⟩, d4⟩ := hH
  have d1 := disj_spec d1
  have d2 := disj_spec d2
  have d3 := disj_spec d3
  have d4 := disj_spec d4
  have xtm : ∀ t, t ∈ y.g.rd → s1.tm t = st.tm t := fun t ht => o1.tm t (fun hw => d1 t hw (List.mem_append_left _ ht)) (fun hk => (hi.k1 t hk).1 ht)
  have xbx : ∀ t, t ∈ y.g.i.brd → s1.bx t = st.bx t := fun t ht => o1.bx t fun hw => d3 t hw (List.mem_append_left _ ht)
  have agY : AgreeS y.E st.s := by
    refine agree_back hi.e.yx hi.e.byx o1.at_ o1.ag ?_
    rw [← o1.s]; exact o2.ag
  -- the second one, first
  have ox2 : ∀ t, t ∈ x.g.i.hw ∨ t ∈ x.E.k → s2.tm t = s1.tm t := by
    intro t ht
    refine o2.tm t (fun hw => ?_) (fun hk => ?_)
    · rcases ht with ht | ht
      · exact d1 t ht (List.mem_append_right _ hw)
      · exact (hi.k1 t ht).2 hw
    · rcases ht with ht | ht
      · exact (hi.k2 t hk).2 ht
      · exact (hi.k1 t ht).1 (rd_g (kl_sub (o2.k t hk)))
  have oxb : ∀ t, t ∈ x.g.i.bwr → s2.bx t = s1.bx t := fun t ht => o2.bx t fun hw => d3 t ht (List.mem_append_right _ hw)
  have hcomm : apps y.E.ws (apps x.E.ws st.s) = apps x.E.ws (apps y.E.ws st.s) := by
    refine (apps_comm (fun u hu v hv => hi.e.ww u hu v hv) (fun u hu => idx_of (o1.at_ u hu) o1.ag) (fun v hv => idx_of (o2.at_ v hv) agY)).symm
  refine ⟨mixE y.g.i y.E st s2, ⟨fun t h1 h2 => ?_, fun t h1 => ?_, rfl, agY, o2.k, o2.at_, o2.r0, o2.w0, fun st2 K2 e1 e2 e3 hk => ?_⟩, s2, ⟨fun t h1 h2 => ?_, fun t h1 => ?_, ?_, safe_apps hi.e.xy o1.ag, o1.k, o1.at_, o1.r0, o1.w0, fun st2 K2 e1 e2 e3 hk => ?_⟩, hl⟩
  · simp only [mixE, h1, h2, or_false, if_false]
  · simp only [mixE, h1, if_false]
  · refine o2.re st2 K2 (fun t ht => by rw [e1 t ht, xtm t ht]) (fun t ht => by rw [e2 t ht, xbx t ht]) e3 ?_
    have : mixE y.g.i y.E st2 (mixE y.g.i y.E st s2) = mixE y.g.i y.E st2 s2 := by
      refine mixE_eq (fun t => ?_) (fun t => ?_) rfl
      · simp only [mixE]; split <;> rfl
      · simp only [mixE]; split <;> rfl
    rwa [this] at hk
  · simp only [mixE]
    split
    · rfl
    · rename_i hn
      simp only [not_or] at hn
      rw [o2.tm t hn.1 hn.2, o1.tm t h1 h2]
  · simp only [mixE]
    split
    · rfl
    · rename_i hn; rw [o2.bx t hn, o1.bx t h1]
  · rw [o2.s, o1.s]; exact hcomm
  · refine o1.re st2 K2 (fun t ht => ?_) (fun t ht => ?_) e3 ?_
    · rw [e1 t ht]
      have hn : ¬(t ∈ y.g.i.hw ∨ t ∈ y.E.k) := by
        rintro (hw | hk)
        · exact d2 t hw (List.mem_append_left _ ht)
        · exact (hi.k2 t hk).1 ht
      simp only [mixE, hn, if_false]
    · rw [e2 t ht]
      have hn : t ∉ y.g.i.bwr := fun hw => d4 t hw ht
      simp only [mixE, hn, if_false]
    · have : mixE x.g.i x.E st2 s2 = mixE x.g.i x.E st2 s1 := by
        refine mixE_eq (fun t => ?_) (fun t => ?_) rfl
        · simp only [mixE]
          split
          · rename_i ht; exact ox2 t ht
          · rfl
        · simp only [mixE]
          split
          · rename_i ht; exact oxb t ht
          · rfl
      rwa [this] at hk

theorem chn_front {g : T} : ∀ {l1 l2 : List T} {st : St} {K : St → Prop}, (∀ x, x ∈ l1 → IndT x g) → Chn P gl (l1 ++ g :: l2) st K → Chn P gl (g :: (l1 ++ l2)) st K
  | [], l2, st, K, _, h => h
  | x :: l1, l2, st, K, hl, h => by
    obtain ⟨s1, o1, h⟩ := h
    have h' := chn_front (l1 := l1) (fun y hy => hl y (by simp [hy])) h
    exact chn_swap (hl x (by simp)) ⟨s1, o1, h'⟩

/-- The runs' numbers. -/
def idsOf : List GI → Nat → List Nat
  | [], _ => []
  | g :: l, id => id :: idsOf l (cond (isAlloc g.i) (id + 1) id)

/-- The two have been looked at when they were run. -/
def Look (x y : T) : Prop := ∃ fx fy, Cov x.E fx ∧ Cov y.E fy ∧ fpOk x.g fx y.g fy = true

theorem chn_of : ∀ {l : List GI} {cf : List (List Nat)} {acc : List (GI × Fp)} {id : Nat} {st : St} {K : St → Prop} {ts : List T}, (∀ g, g ∈ l → twoWays g.i = false) →
    (∀ (i : Nat) x fx, acc[i]? = some (x, fx) → ∃ t, ts[i]? = some t ∧ t.g = x ∧ Cov t.E fx) → acc.length = ts.length → stepsD (AP P gl) gl l cf acc id st K →
    ∃ ts' : List T, Chn P gl ts' st K ∧ ts'.map (·.g) = l ∧ ts'.map (·.id) = idsOf l id ∧ ∀ (j : Nat) tj, ts'[j]? = some tj → ∀ i, i ∈ cf.getD j [] → ∃ ti, (ts ++ ts')[i]? = some ti ∧ Look ti tj
  | [], cf, acc, id, st, K, ts, _, _, _, h => ⟨[], h, rfl, rfl, by simp⟩
  | g :: l, cf, acc, id, st, K, ts, h2, ha, hlen, h => by
    simp only [stepsD] at h
    obtain ⟨st', E, ⟨hc, hk⟩, ho, hcov⟩ := og_all (h2 g (by simp)) h
    obtain ⟨ts', k1, k2, k3, k4⟩ := chn_of (ts := ts ++ [⟨id, g, E⟩]) (fun g hg => h2 g (by simp [hg])) (by
      intro i x fx hi
      rcases Nat.lt_or_ge i acc.length with hl | hl
      · rw [List.getElem?_append_left hl] at hi
        obtain ⟨t, t1, t2⟩ := ha i x fx hi
        exact ⟨t, by rw [List.getElem?_append_left (by omega)]; exact t1, t2⟩
      · rw [List.getElem?_append_right hl] at hi
        have hi0 : i - acc.length = 0 := by
          rcases Nat.eq_zero_or_pos (i - acc.length) with h | h
          · exact h
          · rw [List.getElem?_eq_none (by simp only [List.length_singleton]; omega)] at hi; simp at hi
        rw [hi0] at hi
        simp only [List.getElem?_cons_zero, Option.some.injEq, Prod.mk.injEq] at hi
        obtain ⟨rfl, rfl⟩ := hi
        exact ⟨⟨id, g, E⟩, by rw [List.getElem?_append_right (by omega), show i - ts.length = 0 by omega]; rfl, rfl, hcov⟩) (by simp [hlen]) hk
    refine ⟨⟨id, g, E⟩ :: ts', ⟨st', ho, k1⟩, by simp [k2], by simp [k3, idsOf], ?_⟩
    intro j tj hj i hi
    cases j with
    | zero =>
      simp only [List.getElem?_cons_zero, Option.some.injEq] at hj
      subst hj
      have hi' : i ∈ cf.headD [] := by cases cf <;> first | exact hi | simp at hi
      have := List.all_eq_true.1 hc i hi'
      split at this
      · rename_i x fx hx
        obtain ⟨t, t1, t2, t3⟩ := ha i x fx hx
        have hlt := (List.getElem?_eq_some_iff.1 t1).1
        refine ⟨t, by rw [List.getElem?_append_left hlt]; exact t1, fx, _, t3, hcov, ?_⟩
        rw [t2]; exact this
      · simp at this
    | succ j =>
      simp only [List.getElem?_cons_succ] at hj
      have hi' : i ∈ cf.tail.getD j [] := by cases cf <;> first | exact hi | simp at hi
      obtain ⟨ti, t1, t2⟩ := k4 j tj hj i hi'
      exact ⟨ti, by rw [List.append_assoc] at t1; exact t1, t2⟩

end
end Go.Vm
end
