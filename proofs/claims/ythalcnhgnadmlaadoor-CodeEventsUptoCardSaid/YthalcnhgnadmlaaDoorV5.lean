/- Part of a small abstract machine over the kit. Conditions: none. -/
import Derived.Test.YthalcnhgnadmlaaDoorV4
import Derived.RangeFuncOwn
import Derived.RangeFuncCalls
import Derived.OrdersIn
section
/- What an instruction looks at, and what it writes. Conditions: none. -/
set_option linter.unusedSimpArgs false
namespace Go.Vm

section
variable {P : Program} {gl : Nat → List D}

/-- Two states that an instruction cannot tell apart. -/
structure Agree (i : I) (st st2 : St) : Prop where
  tm : ∀ t, t ∈ i.rd → st2.tm t = st.tm t
  bx : ∀ t, t ∈ i.brd → st2.bx t = st.bx t
  s : i.rs = true → st2.s = st.s

/-- What one state has, where an instruction writes; what the other has elsewhere. -/
def mix (i : I) (st2 st' : St) : St :=
  ⟨fun t => if t ∈ i.wr then st'.tm t else st2.tm t, fun t => if t ∈ i.bwr then st'.bx t else st2.bx t, if i.ws = true then st'.s else st2.s⟩

/-- An instruction's one outcome. -/
def Ch1 (P : Program) (gl : Nat → List D) (i : I) (st : St) (K : St → Prop) : Prop :=
  ∃ st', K st' ∧ (∀ t, t ∉ i.wr → st'.tm t = st.tm t) ∧ (∀ t, t ∉ i.bwr → st'.bx t = st.bx t) ∧ (i.ws = false → st'.s = st.s) ∧
    ∀ st2 (K2 : St → Prop), Agree i st st2 → K2 (mix i st2 st') → step (AP P gl) gl i st2 K2

def Ch (P : Program) (gl : Nat → List D) (i : I) : Prop := ∀ st (K : St → Prop), step (AP P gl) gl i st K → Ch1 P gl i st K

theorem Agree.ev {i : I} {st st2 : St} (h : Agree i st st2) {x : O} (hx : ∀ t, t ∈ x.slots → t ∈ i.rd) : Vm.ev gl st2 x = Vm.ev gl st x := by
  cases x with
  | t n => exact h.tm n (hx n (by simp [O.slots]))
  | c v => rfl
  | g n => rfl

theorem mix_eq {i : I} {st2 st' st3 : St} (h1 : ∀ t, (if t ∈ i.wr then st'.tm t else st2.tm t) = st3.tm t) (h2 : ∀ t, (if t ∈ i.bwr then st'.bx t else st2.bx t) = st3.bx t) (h3 : (if i.ws = true then st'.s else st2.s) = st3.s) :
    mix i st2 st' = st3 := by
  obtain ⟨a, b, c⟩ := st3
  simp only [mix, St.mk.injEq]
  exact ⟨funext h1, funext h2, h3⟩

theorem Ch1.set {i : I} {d : Nat} {v : Val} {st : St} {K : St → Prop} (hw : i.wr = [d]) (hb : i.bwr = []) (hs : i.ws = false) (hK : K (st.set d v))
    (h : ∀ st2 (K2 : St → Prop), Agree i st st2 → K2 (st2.set d v) → step (AP P gl) gl i st2 K2) : Ch1 P gl i st K := by
  refine ⟨_, hK, fun t ht => ?_, fun t _ => rfl, fun _ => rfl, fun st2 K2 ag hk => h st2 K2 ag ?_⟩
  · rw [hw] at ht
    simp only [List.mem_singleton] at ht
    simp only [St.set, upd_eq, ht, if_false]
  · have : mix i st2 (st.set d v) = st2.set d v := by
      refine mix_eq (fun t => ?_) (fun t => by simp [hb, St.set]) (by simp [hs, St.set])
      simp only [hw, List.mem_singleton, St.set, upd_eq]
      split <;> rfl
    rwa [this] at hk

theorem AP_guard (b : Bool) (p : Prop) : (AP P gl).guard b p = (b = true ∧ p) := rfl
theorem AP_fail : (AP P gl).fail = False := rfl

theorem ch_mv {d : Nat} {x : O} : Ch P gl (.mv d x) := by
  intro st K h
  simp only [step] at h
  repeat' split at h
  all_goals first
    | exact h.elim
    | exact h.2.elim
    | exact .set rfl rfl rfl h fun st2 K2 ag hk => by simp only [step, ag.ev (x := x) (fun t ht => ht), AP_guard, and_self, cond_true, cond_false, ↓reduceIte, Bool.false_eq_true, *]
    | exact .set rfl rfl rfl h.2 fun st2 K2 ag hk => by have h1 := h.1; simp only [step, ag.ev (x := x) (fun t ht => ht), AP_guard, and_self, cond_true, cond_false, ↓reduceIte, Bool.false_eq_true, *]
    | exact .set rfl rfl rfl h.2.2 fun st2 K2 ag hk => by have h1 := h.1; have h2 := h.2.1; simp only [step, ag.ev (x := x) (fun t ht => ht), AP_guard, and_self, cond_true, cond_false, ↓reduceIte, Bool.false_eq_true, *]

theorem ch_pk {d : Nat} {c x y : O} : Ch P gl (.pk d c x y) := by
  intro st K h
  simp only [step] at h
  repeat' split at h
  all_goals (try (rename_i t _; cases t))
  all_goals first
    | exact h.elim
    | exact h.2.elim
    | exact .set rfl rfl rfl h fun st2 K2 ag hk => by simp only [step, ag.ev (x := c) (fun t ht => List.mem_append_left _ (List.mem_append_left _ ht)), ag.ev (x := x) (fun t ht => List.mem_append_left _ (List.mem_append_right _ ht)), ag.ev (x := y) (fun t ht => List.mem_append_right _ ht), AP_guard, and_self, cond_true, cond_false, ↓reduceIte, Bool.false_eq_true, *]
    | exact .set rfl rfl rfl h.2 fun st2 K2 ag hk => by have h1 := h.1; simp only [step, ag.ev (x := c) (fun t ht => List.mem_append_left _ (List.mem_append_left _ ht)), ag.ev (x := x) (fun t ht => List.mem_append_left _ (List.mem_append_right _ ht)), ag.ev (x := y) (fun t ht => List.mem_append_right _ ht), AP_guard, and_self, cond_true, cond_false, ↓reduceIte, Bool.false_eq_true, *]
    | exact .set rfl rfl rfl h.2.2 fun st2 K2 ag hk => by have h1 := h.1; have h2 := h.2.1; simp only [step, ag.ev (x := c) (fun t ht => List.mem_append_left _ (List.mem_append_left _ ht)), ag.ev (x := x) (fun t ht => List.mem_append_left _ (List.mem_append_right _ ht)), ag.ev (x := y) (fun t ht => List.mem_append_right _ ht), AP_guard, and_self, cond_true, cond_false, ↓reduceIte, Bool.false_eq_true, *]

theorem ch_nc {d : Nat} {x : O} : Ch P gl (.nc d x) := by
  intro st K h
  simp only [step] at h
  repeat' split at h
  all_goals first
    | exact h.elim
    | exact h.2.elim
    | exact .set rfl rfl rfl h fun st2 K2 ag hk => by simp only [step, ag.ev (x := x) (fun t ht => ht), AP_guard, and_self, cond_true, cond_false, ↓reduceIte, Bool.false_eq_true, *]
    | exact .set rfl rfl rfl h.2 fun st2 K2 ag hk => by have h1 := h.1; simp only [step, ag.ev (x := x) (fun t ht => ht), AP_guard, and_self, cond_true, cond_false, ↓reduceIte, Bool.false_eq_true, *]
    | exact .set rfl rfl rfl h.2.2 fun st2 K2 ag hk => by have h1 := h.1; have h2 := h.2.1; simp only [step, ag.ev (x := x) (fun t ht => ht), AP_guard, and_self, cond_true, cond_false, ↓reduceIte, Bool.false_eq_true, *]

theorem ch_bi {d : Nat} {op : BinOp} {x y : O} : Ch P gl (.bi d op x y) := by
  intro st K h
  simp only [step] at h
  repeat' split at h
  all_goals first
    | exact h.elim
    | exact h.2.elim
    | exact .set rfl rfl rfl h fun st2 K2 ag hk => by simp only [step, ag.ev (x := x) (fun t ht => List.mem_append_left _ ht), ag.ev (x := y) (fun t ht => List.mem_append_right _ ht), AP_guard, and_self, cond_true, cond_false, ↓reduceIte, Bool.false_eq_true, *]
    | exact .set rfl rfl rfl h.2 fun st2 K2 ag hk => by have h1 := h.1; simp only [step, ag.ev (x := x) (fun t ht => List.mem_append_left _ ht), ag.ev (x := y) (fun t ht => List.mem_append_right _ ht), AP_guard, and_self, cond_true, cond_false, ↓reduceIte, Bool.false_eq_true, *]
    | exact .set rfl rfl rfl h.2.2 fun st2 K2 ag hk => by have h1 := h.1; have h2 := h.2.1; simp only [step, ag.ev (x := x) (fun t ht => List.mem_append_left _ ht), ag.ev (x := y) (fun t ht => List.mem_append_right _ ht), AP_guard, and_self, cond_true, cond_false, ↓reduceIte, Bool.false_eq_true, *]

theorem ch_eq {d : Nat} {neg ag : Bool} {ks : List Nat} {x y : O} : Ch P gl (.eq d neg ag ks x y) := by
  intro st K h
  simp only [step] at h
  repeat' split at h
  all_goals first
    | exact h.elim
    | exact h.2.elim
    | exact .set rfl rfl rfl h fun st2 K2 ag hk => by simp only [step, ag.ev (x := x) (fun t ht => List.mem_append_left _ ht), ag.ev (x := y) (fun t ht => List.mem_append_right _ ht), AP_guard, and_self, cond_true, cond_false, ↓reduceIte, Bool.false_eq_true, *]
    | exact .set rfl rfl rfl h.2 fun st2 K2 ag hk => by have h1 := h.1; simp only [step, ag.ev (x := x) (fun t ht => List.mem_append_left _ ht), ag.ev (x := y) (fun t ht => List.mem_append_right _ ht), AP_guard, and_self, cond_true, cond_false, ↓reduceIte, Bool.false_eq_true, *]
    | exact .set rfl rfl rfl h.2.2 fun st2 K2 ag hk => by have h1 := h.1; have h2 := h.2.1; simp only [step, ag.ev (x := x) (fun t ht => List.mem_append_left _ ht), ag.ev (x := y) (fun t ht => List.mem_append_right _ ht), AP_guard, and_self, cond_true, cond_false, ↓reduceIte, Bool.false_eq_true, *]

theorem ch_un {d : Nat} {op : UnOp} {x : O} : Ch P gl (.un d op x) := by
  intro st K h
  simp only [step] at h
  repeat' split at h
  all_goals first
    | exact h.elim
    | exact h.2.elim
    | exact .set rfl rfl rfl h fun st2 K2 ag hk => by simp only [step, ag.ev (x := x) (fun t ht => ht), AP_guard, and_self, cond_true, cond_false, ↓reduceIte, Bool.false_eq_true, *]
    | exact .set rfl rfl rfl h.2 fun st2 K2 ag hk => by have h1 := h.1; simp only [step, ag.ev (x := x) (fun t ht => ht), AP_guard, and_self, cond_true, cond_false, ↓reduceIte, Bool.false_eq_true, *]
    | exact .set rfl rfl rfl h.2.2 fun st2 K2 ag hk => by have h1 := h.1; have h2 := h.2.1; simp only [step, ag.ev (x := x) (fun t ht => ht), AP_guard, and_self, cond_true, cond_false, ↓reduceIte, Bool.false_eq_true, *]

theorem ch_ci {d : Nat} {k : IntKind} {x : O} : Ch P gl (.ci d k x) := by
  intro st K h
  simp only [step] at h
  repeat' split at h
  all_goals first
    | exact h.elim
    | exact h.2.elim
    | exact .set rfl rfl rfl h fun st2 K2 ag hk => by simp only [step, ag.ev (x := x) (fun t ht => ht), AP_guard, and_self, cond_true, cond_false, ↓reduceIte, Bool.false_eq_true, *]
    | exact .set rfl rfl rfl h.2 fun st2 K2 ag hk => by have h1 := h.1; simp only [step, ag.ev (x := x) (fun t ht => ht), AP_guard, and_self, cond_true, cond_false, ↓reduceIte, Bool.false_eq_true, *]
    | exact .set rfl rfl rfl h.2.2 fun st2 K2 ag hk => by have h1 := h.1; have h2 := h.2.1; simp only [step, ag.ev (x := x) (fun t ht => ht), AP_guard, and_self, cond_true, cond_false, ↓reduceIte, Bool.false_eq_true, *]

theorem ch_cs {d : Nat} {x : O} : Ch P gl (.cs d x) := by
  intro st K h
  simp only [step] at h
  repeat' split at h
  all_goals first
    | exact h.elim
    | exact h.2.elim
    | exact .set rfl rfl rfl h fun st2 K2 ag hk => by simp only [step, ag.ev (x := x) (fun t ht => ht), AP_guard, and_self, cond_true, cond_false, ↓reduceIte, Bool.false_eq_true, *]
    | exact .set rfl rfl rfl h.2 fun st2 K2 ag hk => by have h1 := h.1; simp only [step, ag.ev (x := x) (fun t ht => ht), AP_guard, and_self, cond_true, cond_false, ↓reduceIte, Bool.false_eq_true, *]
    | exact .set rfl rfl rfl h.2.2 fun st2 K2 ag hk => by have h1 := h.1; have h2 := h.2.1; simp only [step, ag.ev (x := x) (fun t ht => ht), AP_guard, and_self, cond_true, cond_false, ↓reduceIte, Bool.false_eq_true, *]

theorem ch_sb {d : Nat} {x : O} : Ch P gl (.sb d x) := by
  intro st K h
  simp only [step] at h
  repeat' split at h
  all_goals first
    | exact h.elim
    | exact h.2.elim
    | exact .set rfl rfl rfl h fun st2 K2 ag hk => by simp only [step, ag.ev (x := x) (fun t ht => ht), AP_guard, and_self, cond_true, cond_false, ↓reduceIte, Bool.false_eq_true, *]
    | exact .set rfl rfl rfl h.2 fun st2 K2 ag hk => by have h1 := h.1; simp only [step, ag.ev (x := x) (fun t ht => ht), AP_guard, and_self, cond_true, cond_false, ↓reduceIte, Bool.false_eq_true, *]
    | exact .set rfl rfl rfl h.2.2 fun st2 K2 ag hk => by have h1 := h.1; have h2 := h.2.1; simp only [step, ag.ev (x := x) (fun t ht => ht), AP_guard, and_self, cond_true, cond_false, ↓reduceIte, Bool.false_eq_true, *]

theorem ch_bs {d : Nat} {x : O} : Ch P gl (.bs d x) := by
  intro st K h
  simp only [step] at h
  repeat' split at h
  all_goals first
    | exact h.elim
    | exact h.2.elim
    | exact .set rfl rfl rfl h fun st2 K2 ag hk => by simp only [step, ag.ev (x := x) (fun t ht => ht), AP_guard, and_self, cond_true, cond_false, ↓reduceIte, Bool.false_eq_true, *]
    | exact .set rfl rfl rfl h.2 fun st2 K2 ag hk => by have h1 := h.1; simp only [step, ag.ev (x := x) (fun t ht => ht), AP_guard, and_self, cond_true, cond_false, ↓reduceIte, Bool.false_eq_true, *]
    | exact .set rfl rfl rfl h.2.2 fun st2 K2 ag hk => by have h1 := h.1; have h2 := h.2.1; simp only [step, ag.ev (x := x) (fun t ht => ht), AP_guard, and_self, cond_true, cond_false, ↓reduceIte, Bool.false_eq_true, *]

theorem ch_fa {d : Nat} {x : O} {off : Nat} : Ch P gl (.fa d x off) := by
  intro st K h
  simp only [step] at h
  repeat' split at h
  all_goals first
    | exact h.elim
    | exact h.2.elim
    | exact .set rfl rfl rfl h fun st2 K2 ag hk => by simp only [step, ag.ev (x := x) (fun t ht => ht), AP_guard, and_self, cond_true, cond_false, ↓reduceIte, Bool.false_eq_true, *]
    | exact .set rfl rfl rfl h.2 fun st2 K2 ag hk => by have h1 := h.1; simp only [step, ag.ev (x := x) (fun t ht => ht), AP_guard, and_self, cond_true, cond_false, ↓reduceIte, Bool.false_eq_true, *]
    | exact .set rfl rfl rfl h.2.2 fun st2 K2 ag hk => by have h1 := h.1; have h2 := h.2.1; simp only [step, ag.ev (x := x) (fun t ht => ht), AP_guard, and_self, cond_true, cond_false, ↓reduceIte, Bool.false_eq_true, *]

theorem ch_fd {d : Nat} {x : O} {off n : Nat} {ag : Bool} : Ch P gl (.fd d x off n ag) := by
  intro st K h
  simp only [step] at h
  repeat' split at h
  all_goals first
    | exact h.elim
    | exact h.2.elim
    | exact .set rfl rfl rfl h fun st2 K2 ag hk => by simp only [step, ag.ev (x := x) (fun t ht => ht), AP_guard, and_self, cond_true, cond_false, ↓reduceIte, Bool.false_eq_true, *]
    | exact .set rfl rfl rfl h.2 fun st2 K2 ag hk => by have h1 := h.1; simp only [step, ag.ev (x := x) (fun t ht => ht), AP_guard, and_self, cond_true, cond_false, ↓reduceIte, Bool.false_eq_true, *]
    | exact .set rfl rfl rfl h.2.2 fun st2 K2 ag hk => by have h1 := h.1; have h2 := h.2.1; simp only [step, ag.ev (x := x) (fun t ht => ht), AP_guard, and_self, cond_true, cond_false, ↓reduceIte, Bool.false_eq_true, *]

theorem ch_ia {d : Nat} {x y : O} {sz : Nat} : Ch P gl (.ia d x y sz) := by
  intro st K h
  simp only [step] at h
  repeat' split at h
  all_goals first
    | exact h.elim
    | exact h.2.elim
    | exact .set rfl rfl rfl h fun st2 K2 ag hk => by simp only [step, ag.ev (x := x) (fun t ht => List.mem_append_left _ ht), ag.ev (x := y) (fun t ht => List.mem_append_right _ ht), AP_guard, and_self, cond_true, cond_false, ↓reduceIte, Bool.false_eq_true, *]
    | exact .set rfl rfl rfl h.2 fun st2 K2 ag hk => by have h1 := h.1; simp only [step, ag.ev (x := x) (fun t ht => List.mem_append_left _ ht), ag.ev (x := y) (fun t ht => List.mem_append_right _ ht), AP_guard, and_self, cond_true, cond_false, ↓reduceIte, Bool.false_eq_true, *]
    | exact .set rfl rfl rfl h.2.2 fun st2 K2 ag hk => by have h1 := h.1; have h2 := h.2.1; simp only [step, ag.ev (x := x) (fun t ht => List.mem_append_left _ ht), ag.ev (x := y) (fun t ht => List.mem_append_right _ ht), AP_guard, and_self, cond_true, cond_false, ↓reduceIte, Bool.false_eq_true, *]

theorem ch_aa {d : Nat} {x y : O} {len sz : Nat} : Ch P gl (.aa d x y len sz) := by
  intro st K h
  simp only [step] at h
  repeat' split at h
  all_goals first
    | exact h.elim
    | exact h.2.elim
    | exact .set rfl rfl rfl h fun st2 K2 ag hk => by simp only [step, ag.ev (x := x) (fun t ht => List.mem_append_left _ ht), ag.ev (x := y) (fun t ht => List.mem_append_right _ ht), AP_guard, and_self, cond_true, cond_false, ↓reduceIte, Bool.false_eq_true, *]
    | exact .set rfl rfl rfl h.2 fun st2 K2 ag hk => by have h1 := h.1; simp only [step, ag.ev (x := x) (fun t ht => List.mem_append_left _ ht), ag.ev (x := y) (fun t ht => List.mem_append_right _ ht), AP_guard, and_self, cond_true, cond_false, ↓reduceIte, Bool.false_eq_true, *]
    | exact .set rfl rfl rfl h.2.2 fun st2 K2 ag hk => by have h1 := h.1; have h2 := h.2.1; simp only [step, ag.ev (x := x) (fun t ht => List.mem_append_left _ ht), ag.ev (x := y) (fun t ht => List.mem_append_right _ ht), AP_guard, and_self, cond_true, cond_false, ↓reduceIte, Bool.false_eq_true, *]

theorem ch_ix {d : Nat} {x y : O} : Ch P gl (.ix d x y) := by
  intro st K h
  simp only [step] at h
  repeat' split at h
  all_goals first
    | exact h.elim
    | exact h.2.elim
    | exact .set rfl rfl rfl h fun st2 K2 ag hk => by simp only [step, ag.ev (x := x) (fun t ht => List.mem_append_left _ ht), ag.ev (x := y) (fun t ht => List.mem_append_right _ ht), AP_guard, and_self, cond_true, cond_false, ↓reduceIte, Bool.false_eq_true, *]
    | exact .set rfl rfl rfl h.2 fun st2 K2 ag hk => by have h1 := h.1; simp only [step, ag.ev (x := x) (fun t ht => List.mem_append_left _ ht), ag.ev (x := y) (fun t ht => List.mem_append_right _ ht), AP_guard, and_self, cond_true, cond_false, ↓reduceIte, Bool.false_eq_true, *]
    | exact .set rfl rfl rfl h.2.2 fun st2 K2 ag hk => by have h1 := h.1; have h2 := h.2.1; simp only [step, ag.ev (x := x) (fun t ht => List.mem_append_left _ ht), ag.ev (x := y) (fun t ht => List.mem_append_right _ ht), AP_guard, and_self, cond_true, cond_false, ↓reduceIte, Bool.false_eq_true, *]

theorem ch_em {d : Nat} {x : O} : Ch P gl (.em d x) := by
  intro st K h
  simp only [step] at h
  repeat' split at h
  all_goals first
    | exact h.elim
    | exact h.2.elim
    | exact .set rfl rfl rfl h fun st2 K2 ag hk => by simp only [step, ag.ev (x := x) (fun t ht => ht), AP_guard, and_self, cond_true, cond_false, ↓reduceIte, Bool.false_eq_true, *]
    | exact .set rfl rfl rfl h.2 fun st2 K2 ag hk => by have h1 := h.1; simp only [step, ag.ev (x := x) (fun t ht => ht), AP_guard, and_self, cond_true, cond_false, ↓reduceIte, Bool.false_eq_true, *]
    | exact .set rfl rfl rfl h.2.2 fun st2 K2 ag hk => by have h1 := h.1; have h2 := h.2.1; simp only [step, ag.ev (x := x) (fun t ht => ht), AP_guard, and_self, cond_true, cond_false, ↓reduceIte, Bool.false_eq_true, *]

theorem ch_ln {d : Nat} {str : Bool} {x : O} : Ch P gl (.ln d str x) := by
  intro st K h
  simp only [step] at h
  repeat' split at h
  all_goals first
    | exact h.elim
    | exact h.2.elim
    | exact .set rfl rfl rfl h fun st2 K2 ag hk => by simp only [step, ag.ev (x := x) (fun t ht => ht), AP_guard, and_self, cond_true, cond_false, ↓reduceIte, Bool.false_eq_true, *]
    | exact .set rfl rfl rfl h.2 fun st2 K2 ag hk => by have h1 := h.1; simp only [step, ag.ev (x := x) (fun t ht => ht), AP_guard, and_self, cond_true, cond_false, ↓reduceIte, Bool.false_eq_true, *]
    | exact .set rfl rfl rfl h.2.2 fun st2 K2 ag hk => by have h1 := h.1; have h2 := h.2.1; simp only [step, ag.ev (x := x) (fun t ht => ht), AP_guard, and_self, cond_true, cond_false, ↓reduceIte, Bool.false_eq_true, *]

theorem ch_ex {d : Nat} {x : O} {j : Nat} : Ch P gl (.ex d x j) := by
  intro st K h
  simp only [step] at h
  repeat' split at h
  all_goals first
    | exact h.elim
    | exact h.2.elim
    | exact .set rfl rfl rfl h fun st2 K2 ag hk => by simp only [step, ag.ev (x := x) (fun t ht => ht), AP_guard, and_self, cond_true, cond_false, ↓reduceIte, Bool.false_eq_true, *]
    | exact .set rfl rfl rfl h.2 fun st2 K2 ag hk => by have h1 := h.1; simp only [step, ag.ev (x := x) (fun t ht => ht), AP_guard, and_self, cond_true, cond_false, ↓reduceIte, Bool.false_eq_true, *]
    | exact .set rfl rfl rfl h.2.2 fun st2 K2 ag hk => by have h1 := h.1; have h2 := h.2.1; simp only [step, ag.ev (x := x) (fun t ht => ht), AP_guard, and_self, cond_true, cond_false, ↓reduceIte, Bool.false_eq_true, *]

theorem ch_mn {d : Nat} {lt : Bool} {x y : O} : Ch P gl (.mn d lt x y) := by
  intro st K h
  simp only [step] at h
  repeat' split at h
  all_goals first
    | exact h.elim
    | exact h.2.elim
    | exact .set rfl rfl rfl h fun st2 K2 ag hk => by simp only [step, ag.ev (x := x) (fun t ht => List.mem_append_left _ ht), ag.ev (x := y) (fun t ht => List.mem_append_right _ ht), AP_guard, and_self, cond_true, cond_false, ↓reduceIte, Bool.false_eq_true, *]
    | exact .set rfl rfl rfl h.2 fun st2 K2 ag hk => by have h1 := h.1; simp only [step, ag.ev (x := x) (fun t ht => List.mem_append_left _ ht), ag.ev (x := y) (fun t ht => List.mem_append_right _ ht), AP_guard, and_self, cond_true, cond_false, ↓reduceIte, Bool.false_eq_true, *]
    | exact .set rfl rfl rfl h.2.2 fun st2 K2 ag hk => by have h1 := h.1; have h2 := h.2.1; simp only [step, ag.ev (x := x) (fun t ht => List.mem_append_left _ ht), ag.ev (x := y) (fun t ht => List.mem_append_right _ ht), AP_guard, and_self, cond_true, cond_false, ↓reduceIte, Bool.false_eq_true, *]

theorem ch_x2 {d : Nat} {q : Nat} {x y : O} : Ch P gl (.x2 d q x y) := by
  intro st K h
  simp only [step] at h
  repeat' split at h
  all_goals first
    | exact h.elim
    | exact h.2.elim
    | exact .set rfl rfl rfl h fun st2 K2 ag hk => by simp only [step, ag.ev (x := x) (fun t ht => List.mem_append_left _ ht), ag.ev (x := y) (fun t ht => List.mem_append_right _ ht), AP_guard, and_self, cond_true, cond_false, ↓reduceIte, Bool.false_eq_true, *]
    | exact .set rfl rfl rfl h.2 fun st2 K2 ag hk => by have h1 := h.1; simp only [step, ag.ev (x := x) (fun t ht => List.mem_append_left _ ht), ag.ev (x := y) (fun t ht => List.mem_append_right _ ht), AP_guard, and_self, cond_true, cond_false, ↓reduceIte, Bool.false_eq_true, *]
    | exact .set rfl rfl rfl h.2.2 fun st2 K2 ag hk => by have h1 := h.1; have h2 := h.2.1; simp only [step, ag.ev (x := x) (fun t ht => List.mem_append_left _ ht), ag.ev (x := y) (fun t ht => List.mem_append_right _ ht), AP_guard, and_self, cond_true, cond_false, ↓reduceIte, Bool.false_eq_true, *]

theorem Agree.bound {i : I} {st st2 : St} (h : Agree i st st2) {x : Option O} {n : Int} (hx : ∀ t, t ∈ oSlots x → t ∈ i.rd) : Vm.bound gl st2 n x = Vm.bound gl st n x := by
  cases x with
  | none => rfl
  | some x => simp only [Vm.bound, h.ev (x := x) hx]

theorem Agree.elems {i : I} {st st2 : St} (h : Agree i st st2) {sz : Nat} : ∀ {xs : List O}, (∀ t, t ∈ lSlots xs → t ∈ i.rd) → Vm.elems gl st2 sz xs = Vm.elems gl st sz xs
  | [], _ => rfl
  | x :: xs, hx => by
    simp only [Vm.elems, h.ev (x := x) (fun t ht => hx t (by simp [lSlots, ht])), h.elems (xs := xs) (fun t ht => hx t (by simp only [lSlots, List.flatMap_cons, List.mem_append]; exact .inr ht))]

theorem Agree.fillP {i : I} {st st2 : St} (h : Agree i st st2) : ∀ {ps : List (Nat × Nat × O)} {cs : List Val}, (∀ t, t ∈ (ps.flatMap fun q => q.2.2.slots) → t ∈ i.rd) → Vm.fillP gl st2 cs ps = Vm.fillP gl st cs ps
  | [], _, _ => rfl
  | (off, n, x) :: ps, cs, hx => by
    simp only [Vm.fillP, h.ev (x := x) (fun t ht => hx t (by simp [ht]))]
    cases (Nat.beq (cellsOf (frz (snap (Vm.ev gl st x)))).length n && Nat.ble (off + n) cs.length && (cellsOf (frz (snap (Vm.ev gl st x)))).all (noL depth)) with
    | true => exact h.fillP fun t ht => hx t (by simp only [List.flatMap_cons, List.mem_append]; exact .inr ht)
    | false => rfl

theorem Agree.map {i : I} {st st2 : St} (h : Agree i st st2) {β : Type} {f : Val → β} : ∀ {xs : List O}, (∀ t, t ∈ lSlots xs → t ∈ i.rd) → (xs.map fun x => f (Vm.ev gl st2 x)) = xs.map fun x => f (Vm.ev gl st x)
  | [], _ => rfl
  | x :: xs, hx => by
    simp only [List.map_cons, h.ev (x := x) (fun t ht => hx t (by simp [lSlots, ht])), h.map (xs := xs) (fun t ht => hx t (by simp only [lSlots, List.flatMap_cons, List.mem_append]; exact .inr ht))]

theorem ch_ss {d : Nat} {x : O} {lo hi : Option O} : Ch P gl (.ss d x lo hi) := by
  intro st K h
  simp only [step] at h
  repeat' split at h
  all_goals first
    | exact h.elim
    | exact .set rfl rfl rfl h.2 fun st2 K2 ag hk => by
        have h1 := h.1
        have e1 := ag.ev (gl := gl) (x := x) (fun t ht => List.mem_append_left _ (List.mem_append_left _ ht))
        have e2 := fun n => ag.bound (gl := gl) (x := lo) (n := n) (fun t ht => List.mem_append_left _ (List.mem_append_right _ ht))
        have e3 := fun n => ag.bound (gl := gl) (x := hi) (n := n) (fun t ht => List.mem_append_right _ ht)
        simp only [step, e1, e2, e3, AP_guard, and_self, *]

theorem ch_sl {d sz : Nat} {x : O} {lo hi mx : Option O} : Ch P gl (.sl d sz x lo hi mx) := by
  intro st K h
  simp only [step] at h
  repeat' split at h
  all_goals first
    | exact h.elim
    | exact .set rfl rfl rfl h.2 fun st2 K2 ag hk => by
        have h1 := h.1
        have e1 := ag.ev (gl := gl) (x := x) (fun t ht => List.mem_append_left _ (List.mem_append_left _ (List.mem_append_left _ ht)))
        have e2 := fun n => ag.bound (gl := gl) (x := lo) (n := n) (fun t ht => List.mem_append_left _ (List.mem_append_left _ (List.mem_append_right _ ht)))
        have e3 := fun n => ag.bound (gl := gl) (x := hi) (n := n) (fun t ht => List.mem_append_left _ (List.mem_append_right _ ht))
        have e4 := fun n => ag.bound (gl := gl) (x := mx) (n := n) (fun t ht => List.mem_append_right _ ht)
        simp only [step, e1, e2, e3, e4, AP_guard, and_self, *]

theorem ch_li {d sz : Nat} {xs : List O} : Ch P gl (.li d sz xs) := by
  intro st K h
  simp only [step] at h
  split at h
  · exact .set rfl rfl rfl h fun st2 K2 ag hk => by simp only [step, ag.elems (gl := gl) (sz := sz) (xs := xs) (fun t ht => ht), *]
  · exact h.elim

theorem ch_bd {d : Nat} {z : List Val} {ps : List (Nat × Nat × O)} : Ch P gl (.bd d z ps) := by
  intro st K h
  simp only [step] at h
  split at h
  · exact .set rfl rfl rfl h fun st2 K2 ag hk => by simp only [step, ag.fillP (gl := gl) (ps := ps) (cs := z) (fun t ht => ht), *]
  · exact h.elim

theorem ch_mf {d f : Nat} {xs ws : List O} : Ch P gl (.mf d f xs ws) := by
  intro st K h
  cases xs with
  | nil => cases ws with
    | nil => exact .set rfl rfl rfl h fun st2 K2 ag hk => hk
    | cons y ys =>
      exact .set rfl rfl rfl h.2 fun st2 K2 ag hk => by
        have h1 := h.1
        simp only [step, ag.map (gl := gl) (f := fun v => frz (snap v)) (xs := []) (fun t ht => List.mem_append_left _ ht), ag.map (gl := gl) (f := fun v => frz (snap v)) (xs := y :: ys) (fun t ht => List.mem_append_right _ ht)]
        exact ⟨h1, hk⟩
  | cons x xs =>
    exact .set rfl rfl rfl h.2 fun st2 K2 ag hk => by
      have h1 := h.1
      simp only [step, ag.map (gl := gl) (f := fun v => frz (snap v)) (xs := x :: xs) (fun t ht => List.mem_append_left _ ht), ag.map (gl := gl) (f := fun v => frz (snap v)) (xs := ws) (fun t ht => List.mem_append_right _ ht)]
      exact ⟨h1, hk⟩

theorem ch_ll {d t off n : Nat} {ag : Bool} {x : O} : Ch P gl (.ll d x t off n ag) := by
  intro st K h
  simp only [step] at h
  split at h
  · exact .set rfl rfl rfl h.2 fun st2 K2 ag' hk => by
      have h1 := h.1
      have e1 := ag'.ev (gl := gl) (x := x) (fun t ht => ht)
      have e2 := ag'.bx t (by simp [I.brd])
      simp only [step, e1, e2, AP_guard, and_self, *]
  · exact h.elim

theorem ch_hl {d n : Nat} {ag : Bool} {x : O} : Ch P gl (.hl d x n ag) := by
  intro st K h
  simp only [step] at h
  repeat' split at h
  all_goals first
    | exact h.elim
    | exact .set rfl rfl rfl h.2 fun st2 K2 ag' hk => by
        have h1 := h.1
        have e1 := ag'.ev (gl := gl) (x := x) (fun t ht => ht)
        have e2 := ag'.s rfl
        simp only [step, e1, e2, AP_guard, and_self, *]

theorem ch_lk {d : Nat} {ag ok : Bool} {ks : List Nat} {m k : O} {z : Val} : Ch P gl (.lk d ag ks m k z ok) := by
  intro st K h
  simp only [step] at h
  repeat' split at h
  all_goals first
    | exact h.elim
    | exact h.2.elim
    | exact .set rfl rfl rfl h.2 fun st2 K2 ag' hk => by
        have h1 := h.1
        have e1 := ag'.ev (gl := gl) (x := m) (fun t ht => List.mem_append_left _ ht)
        have e3 := ag'.ev (gl := gl) (x := k) (fun t ht => List.mem_append_right _ ht)
        have e2 := ag'.s rfl
        simp only [step, e1, e2, e3, AP_guard, and_self, *]

theorem ch_nq {d kd : Nat} {neg : Bool} {x : O} (hk0 : Nat.beq kd 0 = false) : Ch P gl (.nq d neg kd x) := by
  intro st K h
  match kd, hk0 with
  | 0, hk0 => simp at hk0
  | 1, _ | 2, _ | 3, _ =>
    simp only [step] at h
    repeat' split at h
    all_goals first
      | exact h.elim
      | exact .set rfl rfl rfl h fun st2 K2 ag hk => by simp only [step, ag.ev (gl := gl) (x := x) (fun t ht => ht), *]
  | n + 4, _ => exact h.elim

theorem ch_cp {d : Option Nat} {f : Nat} {xs : List O} : Ch P gl (.cp d f xs) := by
  intro st K h
  simp only [step] at h
  obtain ⟨h1, r, s', h2, h3, h4⟩ := h
  have re : ∀ st2 (K2 : St → Prop), Agree (.cp d f xs) st st2 → K2 (st2.setO d r) → step (AP P gl) gl (.cp d f xs) st2 K2 := fun st2 K2 ag hk => by
    simp only [step, ag.map (gl := gl) (f := fun v => frz (snap v)) (xs := xs) (fun t ht => ht)]
    exact ⟨h1, r, s', h2, h3, hk⟩
  cases d with
  | some d => exact .set rfl rfl rfl h4 re
  | none => exact ⟨st, h4, fun _ _ => rfl, fun _ _ => rfl, fun _ => rfl, fun st2 K2 ag hk => re st2 K2 ag hk⟩

end
end Go.Vm
end

section
/- What an instruction looks at, and what it writes: those that write more than their result. Conditions: none. -/
set_option linter.unusedSimpArgs false
namespace Go.Vm

section
variable {P : Program} {gl : Nat → List D}

theorem kill_bx (st : St) (x : O) : (kill st x).bx = st.bx := by
  rcases kill_cases st x with ⟨h, _⟩ | ⟨s, _, h, _⟩ <;> rw [h] <;> rfl
theorem kill_s (st : St) (x : O) : (kill st x).s = st.s := by
  rcases kill_cases st x with ⟨h, _⟩ | ⟨s, _, h, _⟩ <;> rw [h] <;> rfl
theorem kill_out {st : St} {x : O} {t : Nat} (h : t ∉ x.slots) : (kill st x).tm t = st.tm t := by
  rcases kill_cases st x with ⟨h', _⟩ | ⟨s, rfl, h', _⟩
  · rw [h']
  · rw [h']; simp only [O.slots, List.mem_singleton] at h; simp only [St.set, upd_eq, h, if_false]
theorem kill_in {st st2 : St} {x : O} {t : Nat} (h : t ∈ x.slots) (ht : st2.tm t = st.tm t) : (kill st2 x).tm t = (kill st x).tm t := by
  cases x with
  | t s =>
    simp only [O.slots, List.mem_singleton] at h
    subst h
    simp only [kill]
    rw [ht]
    cases st.tm t <;> simp only [ht, St.set, upd_self]
  | c v => simp [O.slots] at h
  | g n => simp [O.slots] at h
theorem kill_mix {st st2 : St} {x : O} {t : Nat} (ht : t ∈ x.slots → st2.tm t = st.tm t) : (if t ∈ x.slots then (kill st x).tm t else st2.tm t) = (kill st2 x).tm t := by
  split
  · rename_i h; exact (kill_in h (ht h)).symm
  · rename_i h; exact (kill_out h).symm

theorem ch_tk {d s : Nat} : Ch P gl (.tk d s) := by
  intro st K h
  refine ⟨_, h, fun t ht => ?_, fun _ _ => rfl, fun _ => rfl, fun st2 K2 ag hk => ?_⟩
  · simp only [I.wr, I.dst, Option.toList_some, List.cons_append, List.nil_append, List.mem_cons, List.not_mem_nil, or_false, not_or] at ht
    simp only [St.set, upd_eq, ht.1, ht.2, if_false]
  · have e := ag.tm s (by simp [I.rd])
    have : mix (.tk d s) st2 ((st.set s .undef).set d (st.tm s)) = (st2.set s .undef).set d (st2.tm s) := by
      refine mix_eq (fun t => ?_) (fun t => rfl) rfl
      simp only [I.wr, I.dst, Option.toList_some, List.cons_append, List.nil_append, List.mem_cons, List.not_mem_nil, or_false, St.set, upd_eq, e]
      by_cases h1 : t = d
      · simp [h1]
      · by_cases h2 : t = s <;> simp [h1, h2]
    rw [this] at hk
    exact hk

theorem ch_asg {d : Nat} {x : O} : Ch P gl (.asg d x) := by
  intro st K h
  refine ⟨_, h, fun t ht => ?_, fun _ _ => by simp [St.set, kill_bx], fun _ => by simp [St.set, kill_s], fun st2 K2 ag hk => ?_⟩
  · simp only [I.wr, I.dst, Option.toList_some, List.cons_append, List.nil_append, List.mem_cons, not_or] at ht
    simp only [St.set, upd_eq, ht.1, if_false]
    exact kill_out ht.2
  · have e := ag.ev (gl := gl) (x := x) (fun t ht => ht)
    have : mix (.asg d x) st2 ((kill st x).set d (ev gl st x)) = (kill st2 x).set d (ev gl st2 x) := by
      refine mix_eq (fun t => ?_) (fun t => by simp [St.set, kill_bx, I.bwr]) (by simp [St.set, kill_s, I.ws])
      simp only [I.wr, I.dst, Option.toList_some, List.cons_append, List.nil_append, List.mem_cons, St.set, upd_eq, e]
      by_cases h1 : t = d
      · simp [h1]
      · simp only [h1, false_or, if_false]
        exact kill_mix (ag.tm t)
    rw [this] at hk
    exact hk

theorem ch_ap {d s : Nat} {x : O} {sz bnd : Nat} : Ch P gl (.ap d s x sz bnd) := by
  intro st K h
  simp only [step] at h
  split at h
  · rename_i sz1 l sz2 l2 e1 e2
    refine ⟨_, h.2, fun t ht => ?_, fun _ _ => rfl, fun _ => rfl, fun st2 K2 ag hk => ?_⟩
    · simp only [I.wr, I.dst, Option.toList_some, List.cons_append, List.nil_append, List.mem_cons, List.not_mem_nil, or_false, not_or] at ht
      simp only [St.set, upd_eq, ht.1, ht.2, if_false]
    · have e := ag.tm s (by simp [I.rd])
      have e' := ag.ev (gl := gl) (x := x) (fun t ht => by simp [I.rd, ht])
      have : mix (.ap d s x sz bnd) st2 ((st.set s .undef).set d (.own sz (l ++ l2))) = (st2.set s .undef).set d (.own sz (l ++ l2)) := by
        refine mix_eq (fun t => ?_) (fun t => rfl) rfl
        simp only [I.wr, I.dst, Option.toList_some, List.cons_append, List.nil_append, List.mem_cons, List.not_mem_nil, or_false, St.set, upd_eq]
        by_cases h1 : t = d
        · simp [h1]
        · by_cases h2 : t = s <;> simp [h1, h2]
      rw [this] at hk
      have h1 := h.1
      simp only [step, e, e', e1, e2, AP_guard]
      exact ⟨h1, hk⟩
  · exact h.elim

theorem ch_la {d : Nat} {z : List Val} : Ch P gl (.la d z) := by
  intro st K h
  simp only [step] at h
  split at h
  · rename_i e1
    refine ⟨_, h, fun t ht => ?_, fun t ht => ?_, fun _ => rfl, fun st2 K2 ag hk => ?_⟩
    · simp only [I.wr, I.dst, Option.toList_some, List.append_nil, List.mem_cons, List.not_mem_nil, or_false] at ht
      simp only [St.set, St.setB, upd_eq, ht, if_false]
    · simp only [I.bwr, List.mem_cons, List.not_mem_nil, or_false] at ht
      simp only [St.set, St.setB, upd_eq, ht, if_false]
    · have e := ag.bx d (by simp [I.brd])
      have : mix (.la d z) st2 ((st.setB d z).set d (.lref d 0)) = (st2.setB d z).set d (.lref d 0) := by
        refine mix_eq (fun t => ?_) (fun t => ?_) rfl
        · simp only [I.wr, I.dst, Option.toList_some, List.append_nil, List.mem_cons, List.not_mem_nil, or_false, St.set, St.setB, upd_eq]
          split <;> rfl
        · simp only [I.bwr, List.mem_cons, List.not_mem_nil, or_false, St.set, St.setB, upd_eq]
          split <;> rfl
      rw [this] at hk
      simp only [step, e, e1]
      exact hk
  · exact h.elim

theorem ch_lb {d n : Nat} {x : O} : Ch P gl (.lb d x n) := by
  intro st K h
  simp only [step] at h
  split at h
  · rename_i e1
    refine ⟨_, h.2, fun t ht => ?_, fun t ht => ?_, fun _ => rfl, fun st2 K2 ag hk => ?_⟩
    · simp only [I.wr, I.dst, Option.toList_some, List.append_nil, List.mem_cons, List.not_mem_nil, or_false] at ht
      simp only [St.set, St.setB, upd_eq, ht, if_false]
    · simp only [I.bwr, List.mem_cons, List.not_mem_nil, or_false] at ht
      simp only [St.set, St.setB, upd_eq, ht, if_false]
    · have e := ag.bx d (by simp [I.brd])
      have e' := ag.ev (gl := gl) (x := x) (fun t ht => ht)
      have : mix (.lb d x n) st2 ((st.setB d (cellsOf (snap (ev gl st x)))).set d (.lref d 0)) = (st2.setB d (cellsOf (snap (ev gl st x)))).set d (.lref d 0) := by
        refine mix_eq (fun t => ?_) (fun t => ?_) rfl
        · simp only [I.wr, I.dst, Option.toList_some, List.append_nil, List.mem_cons, List.not_mem_nil, or_false, St.set, St.setB, upd_eq]
          split <;> rfl
        · simp only [I.bwr, List.mem_cons, List.not_mem_nil, or_false, St.set, St.setB, upd_eq]
          split <;> rfl
      rw [this] at hk
      have h1 := h.1
      simp only [step, e, e', e1]
      exact ⟨h1, hk⟩
  · exact h.elim

/-- A new store, and a result. -/
theorem Ch1.store {i : I} {d : Nat} {v : Val} {s' : Store} {st : St} {K : St → Prop} (hw : i.wr = [d]) (hb : i.bwr = []) (hs : i.ws = true) (hK : K ({ st with s := s' }.set d v))
    (h : ∀ st2 (K2 : St → Prop), Agree i st st2 → K2 ({ st2 with s := s' }.set d v) → step (AP P gl) gl i st2 K2) : Ch1 P gl i st K := by
  refine ⟨_, hK, fun t ht => ?_, fun t _ => rfl, fun h => by rw [hs] at h; simp at h, fun st2 K2 ag hk => h st2 K2 ag ?_⟩
  · rw [hw] at ht
    simp only [List.mem_singleton] at ht
    simp only [St.set, upd_eq, ht, if_false]
  · have : mix i st2 ({ st with s := s' }.set d v) = { st2 with s := s' }.set d v := by
      refine mix_eq (fun t => ?_) (fun t => by simp [hb, St.set]) (by simp [hs, St.set])
      simp only [hw, List.mem_singleton, St.set, upd_eq]
      split <;> rfl
    rwa [this] at hk

theorem ch_ha {d : Nat} {z : List Val} : Ch P gl (.ha d z) := by
  intro st K h
  exact .store rfl rfl rfl h fun st2 K2 ag hk => by simp only [step, ag.s rfl]; exact hk

theorem ch_hb {d n : Nat} {x : O} : Ch P gl (.hb d x n) := by
  intro st K h
  exact .store rfl rfl rfl h.2 fun st2 K2 ag hk => by
    have h1 := h.1
    simp only [step, ag.s rfl, ag.ev (gl := gl) (x := x) (fun t ht => ht)]; exact ⟨h1, hk⟩

theorem ch_mm {d : Nat} : Ch P gl (.mm d) := by
  intro st K h
  exact .store rfl rfl rfl h fun st2 K2 ag hk => by simp only [step, ag.s rfl]; exact hk

theorem ch_ht {d : Nat} {x : O} : Ch P gl (.ht d x) := by
  intro st K h
  simp only [step] at h
  repeat' split at h
  all_goals first
    | exact h.elim
    | exact .store rfl rfl rfl h.2 fun st2 K2 ag hk => by
        have h1 := h.1
        simp only [step, ag.s rfl, ag.ev (gl := gl) (x := x) (fun t ht => ht), AP_guard, and_self, *]

theorem ch_mu {ag : Bool} {ks : List Nat} {m k x : O} : Ch P gl (.mu ag ks m k x) := by
  intro st K h
  simp only [step] at h
  repeat' split at h
  all_goals first
    | exact h.elim
    | exact ⟨_, h.2, fun _ _ => rfl, fun _ _ => rfl, fun h => by simp [I.ws] at h, fun st2 K2 ag' hk => by
        have h1 := h.1
        have e1 := ag'.ev (gl := gl) (x := m) (fun t ht => List.mem_append_left _ (List.mem_append_left _ ht))
        have e2 := ag'.ev (gl := gl) (x := k) (fun t ht => List.mem_append_left _ (List.mem_append_right _ ht))
        have e3 := ag'.ev (gl := gl) (x := x) (fun t ht => List.mem_append_right _ ht)
        have e4 := ag'.s rfl
        have hk := (mix_eq (i := .mu ag ks m k x) (st2 := st2) (st3 := { st2 with s := _ }) (fun t => by simp [I.wr, I.dst]) (fun t => by simp [I.bwr]) (by simp only [I.ws, if_true]; rfl)) ▸ hk
        simp only [step, e1, e2, e3, e4, AP_guard, and_self, *]⟩

end
end Go.Vm
end

section
/- Regions that draw their order: any order comes to what the text's order comes to. Conditions: none. -/
set_option linter.unusedSimpArgs false
namespace Go.Vm

section
variable {P : Program} {gl : Nat → List D}

theorem ch_lt {d t off : Nat} {x : O} : Ch P gl (.lt d x t off) := by
  intro st K h
  simp only [step] at h
  split at h
  · rename_i t' off' cs e1 e2
    refine ⟨_, h.2, fun u hu => ?_, fun u hu => ?_, fun _ => rfl, fun st2 K2 ag hk => ?_⟩
    · simp only [I.wr, I.dst, Option.toList_some, List.append_nil, List.mem_cons, List.not_mem_nil, or_false] at hu
      simp only [St.set, St.setB, upd_eq, hu, if_false]
    · simp only [I.bwr, List.mem_cons, List.not_mem_nil, or_false] at hu
      simp only [St.set, St.setB, upd_eq, hu, if_false]
    · have e := ag.bx t (by simp [I.brd])
      have e' := ag.ev (gl := gl) (x := x) (fun t ht => ht)
      have : mix (.lt d x t off) st2 ((st.setB t (cs.set off .undef)).set d (cs.getD off .undef)) = (st2.setB t (cs.set off .undef)).set d (cs.getD off .undef) := by
        refine mix_eq (fun u => ?_) (fun u => ?_) rfl
        · simp only [I.wr, I.dst, Option.toList_some, List.append_nil, List.mem_cons, List.not_mem_nil, or_false, St.set, St.setB, upd_eq]
          split <;> rfl
        · simp only [I.bwr, List.mem_cons, List.not_mem_nil, or_false, St.set, St.setB, upd_eq]
          split <;> rfl
      rw [this] at hk
      have h1 := h.1
      simp only [step, e, e', e1, e2]
      exact ⟨h1, hk⟩
  · exact h.elim

theorem ch_ls {t off n : Nat} {x y : O} : Ch P gl (.ls x t off y n) := by
  intro st K h
  simp only [step] at h
  split at h
  · rename_i t' off' cs e1 e2
    refine ⟨_, h.2, fun u hu => ?_, fun u hu => ?_, fun _ => by simp [St.setB, kill_s], fun st2 K2 ag hk => ?_⟩
    · simp only [I.wr, I.dst, Option.toList_none, List.nil_append] at hu
      simp only [St.setB]
      exact kill_out hu
    · simp only [I.bwr, List.mem_cons, List.not_mem_nil, or_false] at hu
      simp only [St.setB, upd_eq, hu, if_false, kill_bx]
    · have e := ag.bx t (by simp [I.brd])
      have e' := ag.ev (gl := gl) (x := x) (fun t ht => List.mem_append_left _ ht)
      have e'' := ag.ev (gl := gl) (x := y) (fun t ht => List.mem_append_right _ ht)
      have : mix (.ls x t off y n) st2 ((kill st y).setB t (putCells cs off (cellsOf (ev gl st y)))) = (kill st2 y).setB t (putCells cs off (cellsOf (ev gl st y))) := by
        refine mix_eq (fun u => ?_) (fun u => ?_) (by simp [St.setB, kill_s, I.ws])
        · simp only [I.wr, I.dst, Option.toList_none, List.nil_append, St.setB]
          exact kill_mix fun hu => ag.tm u (List.mem_append_right _ hu)
        · simp only [I.bwr, List.mem_cons, List.not_mem_nil, or_false, St.set, St.setB, upd_eq, kill_bx]
          split <;> rfl
      rw [this] at hk
      have h1 := h.1
      simp only [step, e, e', e'', e1, e2]
      exact ⟨h1, hk⟩
  · exact h.elim

theorem ch_hs {n : Nat} {x y : O} : Ch P gl (.hs x y n) := by
  intro st K h
  simp only [step] at h
  split at h
  · rename_i i off e1
    split at h
    · rename_i cs e2
      refine ⟨_, h.2, fun u hu => ?_, fun u hu => by simp [kill_bx], fun h => by simp [I.ws] at h, fun st2 K2 ag hk => ?_⟩
      · simp only [I.wr, I.dst, Option.toList_none, List.nil_append] at hu
        exact kill_out hu
      · have e := ag.s rfl
        have e' := ag.ev (gl := gl) (x := x) (fun t ht => List.mem_append_left _ ht)
        have e'' := ag.ev (gl := gl) (x := y) (fun t ht => List.mem_append_right _ ht)
        have : mix (.hs x y n) st2 { kill st y with s := st.s.set i (.box (putCells cs off (cellsOf (ev gl st y)))) } = { kill st2 y with s := st.s.set i (.box (putCells cs off (cellsOf (ev gl st y)))) } := by
          refine mix_eq (fun u => ?_) (fun u => by simp [I.bwr, kill_bx]) (by simp [I.ws])
          simp only [I.wr, I.dst, Option.toList_none, List.nil_append]
          exact kill_mix fun hu => ag.tm u (List.mem_append_right _ hu)
        rw [this] at hk
        have h1 := h.1
        simp only [step, e, e', e'', e1, e2]
        exact ⟨h1, hk⟩
    · exact h.elim
  · exact h.elim

theorem callStep_ch {f : Nat} {args : List Val} {s : Store} {K : Val → Store → Prop} (h : callStep (AP P gl) f args s K) : ∃ r s', K r s' ∧ ∀ K2 : Val → Store → Prop, K2 r s' → callStep (AP P gl) f args s K2 := by
  unfold callStep at h ⊢
  obtain ⟨h1, r, s', h2, h3, h4⟩ := h
  exact ⟨_, _, h4, fun K2 hk => ⟨h1, r, s', h2, h3, hk⟩⟩

theorem ch_cl {d : Option Nat} {f : O} {xs : List O} : Ch P gl (.cl d f xs) := by
  intro st K h
  have key : ∃ r s', K ({ st with s := s' }.setO d r) ∧ ∀ st2 (K2 : St → Prop), Agree (.cl d f xs) st st2 → K2 ({ st2 with s := s' }.setO d r) → step (AP P gl) gl (.cl d f xs) st2 K2 := by
    simp only [step] at h
    split at h
    · rename_i g e
      obtain ⟨r, s', h1, h2⟩ := callStep_ch h
      refine ⟨r, s', h1, fun st2 K2 ag hk => ?_⟩
      have e1 := ag.ev (gl := gl) (x := f) (fun t ht => List.mem_append_left _ ht)
      simp only [step, e1, e, ag.s rfl, ag.map (gl := gl) (f := fun v => frz (snap v)) (xs := xs) (fun t ht => List.mem_append_right _ ht)]
      exact h2 _ hk
    · rename_i g a c e
      obtain ⟨r, s', h1, h2⟩ := callStep_ch h
      refine ⟨r, s', h1, fun st2 K2 ag hk => ?_⟩
      have e1 := ag.ev (gl := gl) (x := f) (fun t ht => List.mem_append_left _ ht)
      simp only [step, e1, e, ag.s rfl, ag.map (gl := gl) (f := fun v => frz (snap v)) (xs := xs) (fun t ht => List.mem_append_right _ ht)]
      exact h2 _ hk
    · exact h.elim
  obtain ⟨r, s', h1, h2⟩ := key
  cases d with
  | some d => exact .store rfl rfl rfl h1 h2
  | none =>
    refine ⟨_, h1, fun _ _ => rfl, fun _ _ => rfl, fun h => by simp [I.ws] at h, fun st2 K2 ag hk => h2 st2 K2 ag ?_⟩
    have : mix (.cl none f xs) st2 ({ st with s := s' }.setO none r) = { st2 with s := s' }.setO none r := mix_eq (fun t => by simp [I.wr, I.dst, St.setO]) (fun t => by simp [I.bwr, St.setO]) (by simp [I.ws, St.setO])
    rwa [this] at hk

theorem ch_all {i : I} (h : twoWays i = false) : Ch P gl i := by
  cases i with
  | mv => exact ch_mv
  | tk => exact ch_tk
  | asg => exact ch_asg
  | pk => exact ch_pk
  | la => exact ch_la
  | lb => exact ch_lb
  | ha => exact ch_ha
  | hb => exact ch_hb
  | bd => exact ch_bd
  | li => exact ch_li
  | ll => exact ch_ll
  | lt => exact ch_lt
  | ls => exact ch_ls
  | hl => exact ch_hl
  | ht => exact ch_ht
  | hs => exact ch_hs
  | nc => exact ch_nc
  | bi => exact ch_bi
  | eq => exact ch_eq
  | un => exact ch_un
  | ci => exact ch_ci
  | cs => exact ch_cs
  | sb => exact ch_sb
  | bs => exact ch_bs
  | fa => exact ch_fa
  | fd => exact ch_fd
  | ia => exact ch_ia
  | aa => exact ch_aa
  | ix => exact ch_ix
  | ss => exact ch_ss
  | sl => exact ch_sl
  | em => exact ch_em
  | mf => exact ch_mf
  | cl => exact ch_cl
  | ap => exact ch_ap
  | ln => exact ch_ln
  | ex => exact ch_ex
  | mm => exact ch_mm
  | lk => exact ch_lk
  | mu => exact ch_mu
  | mn => exact ch_mn
  | x2 => exact ch_x2
  | nq => exact ch_nq h
  | cp => exact ch_cp

end
end Go.Vm
end

section
/- Regions that draw their order: any order comes to what the text's order comes to. Conditions: none. -/
set_option linter.unusedSimpArgs false
namespace Go.Vm

section
variable {P : Program} {gl : Nat → List D}

theorem wr_sub {i : I} {t : Nat} (h : t ∈ i.wr) : i.dst = some t ∨ t ∈ i.rd := by
  unfold I.wr at h
  rcases List.mem_append.1 h with h | h
  · left
    cases hd : i.dst with
    | none => rw [hd] at h; simp at h
    | some d => rw [hd] at h; simp only [Option.toList_some, List.mem_singleton] at h; rw [h]
  · right
    cases i <;> simp only [List.not_mem_nil] at h
    · exact h
    · exact h
    · exact List.mem_append_right _ h
    · exact List.mem_append_right _ h
    · simp only [List.mem_singleton] at h; simp [I.rd, h]
theorem bwr_sub {i : I} {t : Nat} (h : t ∈ i.bwr) : t ∈ i.brd := by
  cases i <;> simp [I.bwr, I.brd] at h ⊢ <;> exact h
theorem ws_rs {i : I} (h : i.ws = true) : i.rs = true := by
  cases i <;> simp [I.ws, I.rs] at h ⊢
theorem dst_wr {i : I} {d : Nat} (h : i.dst = some d) : d ∈ i.wr := by
  unfold I.wr; rw [h]; simp

structure AgreeG (g : GI) (st st2 : St) : Prop where
  tm : ∀ t, t ∈ g.rd → st2.tm t = st.tm t
  bx : ∀ t, t ∈ g.i.brd → st2.bx t = st.bx t
  s : g.i.rs = true → st2.s = st.s

theorem AgreeG.toI {g : GI} {st st2 : St} (h : AgreeG g st st2) : Agree g.i st st2 :=
  ⟨fun t ht => h.tm t (by unfold GI.rd; exact List.mem_append_right _ ht), h.bx, h.s⟩

theorem AgreeG.refl (g : GI) (st : St) : AgreeG g st st := ⟨fun _ _ => rfl, fun _ _ => rfl, fun _ => rfl⟩

def ChG (P : Program) (gl : Nat → List D) (g : GI) : Prop := ∀ st (K : St → Prop), steps (AP P gl) gl [g] st K →
  ∃ st', K st' ∧ (∀ t, t ∉ g.i.wr → st'.tm t = st.tm t) ∧ (∀ t, t ∉ g.i.bwr → st'.bx t = st.bx t) ∧ (g.i.ws = false → st'.s = st.s) ∧
    ∀ st2 (K2 : St → Prop), AgreeG g st st2 → K2 (mix g.i st2 st') → steps (AP P gl) gl [g] st2 K2

theorem setO_tm (st : St) (d : Option Nat) (v : Val) (t : Nat) : (st.setO d v).tm t = if d = some t then v else st.tm t := by
  cases d with
  | none => simp [St.setO]
  | some d =>
    simp only [St.setO, St.set, upd_eq, Option.some.injEq]
    by_cases h : t = d
    · simp [h]
    · have : d ≠ t := fun e => h e.symm
      simp [h, this]
theorem setO_bx (st : St) (d : Option Nat) (v : Val) : (st.setO d v).bx = st.bx := by cases d <;> rfl
theorem setO_s (st : St) (d : Option Nat) (v : Val) : (st.setO d v).s = st.s := by cases d <;> rfl

theorem skip_mix {g : GI} {st st2 : St} (ag : AgreeG g st st2) : mix g.i st2 (st.setO g.i.dst (.tuple [])) = st2.setO g.i.dst (.tuple []) := by
  refine mix_eq (fun t => ?_) (fun t => ?_) ?_
  · rw [setO_tm, setO_tm]
    by_cases h : g.i.dst = some t
    · simp [h, dst_wr h]
    · simp only [h, if_false]
      split
      · rename_i hw
        rcases wr_sub hw with h' | h'
        · exact absurd h' h
        · exact (ag.toI.tm t h').symm
      · rfl
  · rw [setO_bx, setO_bx]
    split
    · rename_i hw; exact (ag.bx t (bwr_sub hw)).symm
    · rfl
  · rw [setO_s, setO_s]
    split
    · rename_i hw; exact (ag.s (ws_rs hw)).symm
    · rfl

theorem chG {g : GI} (h : twoWays g.i = false) : ChG P gl g := by
  obtain ⟨gd, i⟩ := g
  intro st K hs
  cases gd with
  | none =>
    obtain ⟨st', h1, h2, h3, h4, h5⟩ := ch_all (P := P) (gl := gl) h st K hs
    exact ⟨st', h1, h2, h3, h4, fun st2 K2 ag hk => h5 st2 K2 ag.toI hk⟩
  | some q =>
    obtain ⟨s, want⟩ := q
    have hsm : ∀ {st2 : St}, AgreeG ⟨some (s, want), i⟩ st st2 → st2.tm s = st.tm s := fun ag => ag.tm s (by simp [GI.rd])
    have skip : K (st.setO i.dst (.tuple [])) → (∀ st2 (K2 : St → Prop), AgreeG ⟨some (s, want), i⟩ st st2 → K2 (st2.setO i.dst (.tuple [])) → steps (AP P gl) gl [⟨some (s, want), i⟩] st2 K2) →
        ∃ st', K st' ∧ (∀ t, t ∉ i.wr → st'.tm t = st.tm t) ∧ (∀ t, t ∉ i.bwr → st'.bx t = st.bx t) ∧ (i.ws = false → st'.s = st.s) ∧
          ∀ st2 (K2 : St → Prop), AgreeG ⟨some (s, want), i⟩ st st2 → K2 (mix i st2 st') → steps (AP P gl) gl [⟨some (s, want), i⟩] st2 K2 := by
      intro h1 h2
      refine ⟨_, h1, fun t ht => ?_, fun t _ => by rw [setO_bx], fun _ => by rw [setO_s], fun st2 K2 ag hk => h2 st2 K2 ag ?_⟩
      · rw [setO_tm, if_neg]; exact fun h => ht (dst_wr h)
      · have := skip_mix (g := ⟨some (s, want), i⟩) ag
        simp only at this
        rwa [this] at hk
    simp only [steps] at hs
    split at hs
    · rename_i b hb
      cases hc : cond want b (!b) with
      | true =>
        rw [hc] at hs
        obtain ⟨st', h1, h2, h3, h4, h5⟩ := ch_all (P := P) (gl := gl) h st K hs
        refine ⟨st', h1, h2, h3, h4, fun st2 K2 ag hk => ?_⟩
        simp only [steps, hsm ag, hb, hc]
        exact h5 st2 K2 ag.toI hk
      | false =>
        rw [hc] at hs
        exact skip hs fun st2 K2 ag hk => by simp only [steps, hsm ag, hb, hc]; exact hk
    · rename_i hb
      exact skip hs fun st2 K2 ag hk => by simp only [steps, hsm ag, hb]; exact hk
    · exact hs.elim

theorem disj_spec {a b : List Nat} (h : disj a b = true) : ∀ t, t ∈ a → t ∉ b := by
  intro t ht hb
  have := List.all_eq_true.1 h t ht
  simp only [Bool.not_eq_true'] at this
  rw [elemB_iff.2 hb] at this
  simp at this

/-- Two that have nothing to do with each other may change places. -/
theorem steps_swap {x y : GI} {st : St} {K : St → Prop} (hi : indep x y = true) (hx : ChG P gl x) (hy : ChG P gl y) (h : steps (AP P gl) gl [x] st fun st => steps (AP P gl) gl [y] st K) :
    steps (AP P gl) gl [y] st fun st => steps (AP P gl) gl [x] st K := by
  unfold indep at hi
  simp only [Bool.and_eq_true, Bool.not_eq_true', Bool.and_eq_false_iff] at hi
  obtain ⟨⟨⟨⟨⟨d1, d2⟩, d3⟩, d4⟩, d5⟩, d6⟩ := hi
  have d1 := disj_spec d1
  have d2 := disj_spec d2
  have d3 := disj_spec d3
  have d4 := disj_spec d4
  obtain ⟨s1, k1, a1, a2, a3, rx⟩ := hx st _ h
  obtain ⟨s2, k2, b1, b2, b3, ry⟩ := hy s1 _ k1
  refine ry st _ ⟨fun t ht => ?_, fun t ht => ?_, fun hr => ?_⟩ ?_
  · exact (a1 t fun hw => d1 t hw (List.mem_append_left _ ht)).symm
  · exact (a2 t fun hw => d3 t hw (List.mem_append_left _ ht)).symm
  · exact (a3 (by rcases d5 with h | h; exact h; rw [hr] at h; simp at h)).symm
  · refine rx _ _ ⟨fun t ht => ?_, fun t ht => ?_, fun hr => ?_⟩ ?_
    · have : t ∉ y.i.wr := fun hw => d2 t hw ht
      simp only [mix, this, if_false]
    · have : t ∉ y.i.bwr := fun hw => d4 t hw ht
      simp only [mix, this, if_false]
    · have : y.i.ws = false := by rcases d6 with h | h; exact h; rw [hr] at h; simp at h
      simp [mix, this]
    · have : mix x.i (mix y.i st s2) s1 = s2 := by
        refine mix_eq (fun t => ?_) (fun t => ?_) ?_
        · simp only [mix]
          by_cases h1 : t ∈ x.i.wr
          · simp only [h1, if_true]
            exact (b1 t fun hw => d1 t h1 (List.mem_append_right _ hw)).symm
          · by_cases h2 : t ∈ y.i.wr
            · simp [h1, h2]
            · simp only [h1, h2, if_false]
              rw [b1 t h2, a1 t h1]
        · simp only [mix]
          by_cases h1 : t ∈ x.i.bwr
          · simp only [h1, if_true]
            exact (b2 t fun hw => d3 t h1 (List.mem_append_right _ hw)).symm
          · by_cases h2 : t ∈ y.i.bwr
            · simp [h1, h2]
            · simp only [h1, h2, if_false]
              rw [b2 t h2, a2 t h1]
        · simp only [mix]
          cases h1 : x.i.ws with
          | true =>
            have : y.i.ws = false := by
              rcases d5 with h | h
              · rw [h1] at h; simp at h
              · cases hw : y.i.ws with
                | false => rfl
                | true => rw [ws_rs hw] at h; simp at h
            simp only [if_true]
            exact (b3 this).symm
          | false =>
            cases h2 : y.i.ws with
            | true => simp
            | false => simp; rw [b3 h2, a3 h1]
      rw [this]; exact k2

theorem steps_mono1 {x : GI} {st : St} {K K' : St → Prop} (hx : ChG P gl x) (hk : ∀ s, K s → K' s) (h : steps (AP P gl) gl [x] st K) : steps (AP P gl) gl [x] st K' := by
  obtain ⟨s1, k1, a1, a2, a3, rx⟩ := hx st _ h
  refine rx st _ (.refl x st) (hk _ ?_)
  have : mix x.i st s1 = s1 := by
    refine mix_eq (fun t => ?_) (fun t => ?_) ?_
    · split
      · rfl
      · rename_i h; exact (a1 t h).symm
    · split
      · rfl
      · rename_i h; exact (a2 t h).symm
    · split
      · rfl
      · rename_i h; exact (a3 (by simpa using h)).symm
  rwa [this]

theorem steps_front {g : GI} (hg : ChG P gl g) : ∀ {l1 l2 : List GI} {st : St} {K : St → Prop}, (∀ x, x ∈ l1 → indep x g = true ∧ ChG P gl x) → steps (AP P gl) gl (l1 ++ g :: l2) st K →
    steps (AP P gl) gl [g] st fun st => steps (AP P gl) gl (l1 ++ l2) st K
  | [], l2, st, K, _, h => by
    rw [List.nil_append, steps_cons] at h
    exact h
  | x :: l1, l2, st, K, hl, h => by
    rw [List.cons_append, steps_cons] at h
    have h1 := steps_mono1 (hl x (by simp)).2 (fun s hs => steps_front hg (l1 := l1) (l2 := l2) (fun y hy => hl y (by simp [hy])) hs) h
    have h2 := steps_swap (hl x (by simp)).1 (hl x (by simp)).2 hg h1
    refine steps_mono1 hg (fun s hs => ?_) h2
    rw [List.cons_append, steps_cons]
    exact hs

theorem onPath_listed {ops : Array Oper} {listed : Array Bool} (hcl : ∀ (j : Nat) (o : Oper), ops[j]? = some o → listed.getD j true = true → ∀ e ∈ o.after.toList, Region.binds .any e = true → listed.getD e.on false = true) {x : Nat} :
    ∀ (n j : Nat) (o : Oper), ops[j]? = some o → (∀ e ∈ o.after.toList, Region.binds .any e = true → listed.getD e.on false = true) → onPath ops x n j = true → listed.getD x false = true
  | 0, j, o, _, _, h => by simp [onPath] at h
  | n + 1, j, o, ho, ha, h => by
    simp only [onPath, ho, List.any_eq_true, Bool.and_eq_true, Bool.or_eq_true] at h
    obtain ⟨e, he, hb, h⟩ := h
    have h1 := ha e he hb
    rcases h with h | h
    · rw [← Nat.eq_of_beq_eq_true h]; exact h1
    · cases ho2 : ops[e.on]? with
      | none =>
        cases n with
        | zero => simp [onPath] at h
        | succ n => simp [onPath, ho2] at h
      | some o2 =>
        refine onPath_listed hcl n e.on o2 ho2 (hcl e.on o2 ho2 ?_) h
        rw [Array.getD_eq_getD_getElem?] at h1 ⊢
        cases hx : listed[e.on]? with
        | none => rw [hx] at h1; simp at h1
        | some b => rw [hx] at h1; exact h1

theorem compOps_get {an : Ann} {nt : Nat} {all : Array Oper} : ∀ {l : List Oper} {m : AMap} {is : List GI}, compOps P an nt all m l = some is → is.length = l.length ∧
    ∀ (i : Nat) (o : Oper), l[i]? = some o → ∃ m' g ins, is[i]? = some ⟨g, ins⟩ ∧ compOp P an m' o = some ins ∧ compGuard all o = some g ∧ dstOk nt o = true ∧ ins.dst = o.dst
  | [], m, is, h => by
    simp only [compOps, Option.some.injEq] at h
    subst h
    exact ⟨rfl, fun i o ho => by simp at ho⟩
  | o :: l, m, is, h => by
    simp only [compOps] at h
    split at h
    · rename_i i g is' h1 h2 h3
      split at h
      · rename_i hd
        simp only [Bool.and_eq_true, decide_eq_true_eq] at hd
        simp only [Option.some.injEq] at h
        subst h
        obtain ⟨e1, e2⟩ := compOps_get h3
        refine ⟨by simp [e1], fun k o' ho => ?_⟩
        cases k with
        | zero => simp only [List.getElem?_cons_zero, Option.some.injEq] at ho; subst ho; exact ⟨m, g, i, rfl, h1, h2, hd.1, hd.2⟩
        | succ k => exact e2 k o' (by simpa using ho)
      · simp at h
    · simp at h

end
end Go.Vm
end

section
/- Regions that draw their order: the law. Conditions: none. -/
set_option linter.unusedSimpArgs false
namespace Go.Vm

section
variable {P : Program} {gl : Nat → List D} {n0 nt : Nat} {a : Act} {w w' w0 : World} {G G' G0 : Gh} {ρ ρ' ρ0 : List Nat} {lam lam' : Nat → Option Nat} {st st' : St} {K : St → Prop} {o : Oper} {Q : Exit → Act → World → Prop}

theorem any_run {ops : Array Oper} {is : List GI} {an : Ann} {m0 : AMap} (hc : compOps P an nt ops m0 ops.toList = some is) (hback : backEdges ops = true) (h2w : ∀ g, g ∈ is → twoWays g.i = false)
    (hpair : ∀ i j, i < j → j < ops.size → pairOk ops is i j = true) : ∀ (fuel : Nat) {rem : List Nat} {listed : Array Bool} {w : World} {G : Gh} {ρ : List Nat} {lam : Nat → Option Nat} {a : Act} {st : St},
    rem.length = fuel → listed.size = ops.size → rem.Pairwise (· < ·) → (∀ i, i ∈ rem ↔ i < ops.size ∧ listed.getD i true = false) →
    (∀ (j : Nat) (o : Oper), ops[j]? = some o → listed.getD j true = true → ∀ e ∈ o.after.toList, Region.binds .any e = true → listed.getD e.on false = true) →
    Pre n0 gl nt w G ρ lam a st → Far w0 G0 ρ0 w G ρ → steps (AP P gl) gl (rem.map fun i => is.getD i default) st K → (∀ a' w', After n0 gl nt w0 G0 ρ0 K a' w' → Q .normal a' w') →
    wpAny P .any ops Q fuel listed a w := by
  intro fuel
  induction fuel with
  | zero =>
    intro rem listed w G ρ lam a st hlen hsz hsort hmem hcl p f hs hQ
    have : rem = [] := List.eq_nil_of_length_eq_zero hlen
    subst this
    refine ⟨?_, hQ _ _ (f.after (p.after hs))⟩
    unfold Region.ready
    rw [List.filter_eq_nil_iff]
    intro i hi
    have := (hmem i).2
    cases hl : listed.getD i true with
    | true => simp
    | false => exact absurd (this ⟨List.mem_range.1 hi, hl⟩) (by simp)
  | succ fuel ih =>
    intro rem listed w G ρ lam a st hlen hsz hsort hmem hcl p f hs hQ
    obtain ⟨e1, e2⟩ := compOps_get hc
    have hready : ∀ i, i ∈ Region.ready .any ops listed ↔ i ∈ rem ∧ ∀ o, ops[i]? = some o → ∀ e ∈ o.after.toList, Region.binds .any e = true → listed.getD e.on false = true := by
      intro i
      unfold Region.ready
      rw [List.mem_filter, hmem i, List.mem_range]
      constructor
      · rintro ⟨h1, h2⟩
        simp only [Bool.and_eq_true, Bool.not_eq_true'] at h2
        refine ⟨⟨h1, h2.1⟩, fun o ho e he hb => ?_⟩
        have h3 := h2.2
        rw [ho] at h3
        simp only [Option.map_some, Option.getD_some, Array.all_eq_true_iff_forall_mem, Bool.or_eq_true, Bool.not_eq_true'] at h3
        rcases h3 e (by simpa using he) with h | h
        · rw [hb] at h; simp at h
        · exact h
      · rintro ⟨⟨h1, h2⟩, h3⟩
        refine ⟨h1, ?_⟩
        simp only [Bool.and_eq_true, Bool.not_eq_true']
        refine ⟨h2, ?_⟩
        rw [Array.getElem?_eq_getElem h1]
        simp only [Option.map_some, Option.getD_some, Array.all_eq_true_iff_forall_mem, Bool.or_eq_true, Bool.not_eq_true']
        intro e he
        cases hb : Region.binds .any e with
        | false => exact .inl rfl
        | true => exact .inr (h3 _ (Array.getElem?_eq_getElem h1) e (by simpa using he) hb)
    refine ⟨fun hnil => ?_, fun i hi => ?_⟩
    · -- the first that is left may always run
      exfalso
      cases rem with
      | nil => simp at hlen
      | cons i rem =>
        have hi : i ∈ Region.ready .any ops listed := by
          refine (hready i).2 ⟨by simp, fun o ho e he hb => ?_⟩
          have hlt : i < ops.size := ((hmem i).1 (by simp)).1
          unfold backEdges at hback
          have h1 := List.all_eq_true.1 hback i (List.mem_range.2 hlt)
          rw [ho] at h1
          simp only [List.all_eq_true, Bool.or_eq_true, Bool.not_eq_true'] at h1
          have h2 : e.on < i := by
            rcases h1 e he with h | h
            · rw [hb] at h; simp at h
            · simpa [Nat.blt_eq] using h
          have h3 : e.on ∉ i :: rem := by
            intro h
            rcases List.mem_cons.1 h with h | h
            · omega
            · have := (List.pairwise_cons.1 hsort).1 e.on h; omega
          have h4 : listed.getD e.on true = true := by
            cases hl : listed.getD e.on true with
            | true => rfl
            | false => exact absurd ((hmem e.on).2 ⟨by omega, hl⟩) h3
          rw [Array.getD_eq_getD_getElem?, Array.getElem?_eq_getElem (show e.on < listed.size by omega)] at h4 ⊢
          exact h4
        rw [hnil] at hi; simp at hi
    · obtain ⟨him, hia⟩ := (hready i).1 hi
      have hlt : i < ops.size := ((hmem i).1 him).1
      obtain ⟨l1, l2, rfl⟩ := List.append_of_mem him
      have ho : ops[i]? = some ops[i] := Array.getElem?_eq_getElem hlt
      obtain ⟨m', g, ins, hg, c1, c2, c3, c4⟩ := e2 i ops[i] (by simp)
      have hgd : is.getD i default = ⟨g, ins⟩ := by rw [List.getD_eq_getElem?_getD, hg]; rfl
      have hisx : ∀ j, j < ops.size → is[j]? = some (is.getD j default) := by
        intro j hj
        have : j < is.length := by rw [e1]; simpa using hj
        rw [List.getD_eq_getElem?_getD, List.getElem?_eq_getElem this]; rfl
      have hCh : ∀ j, j < ops.size → ChG P gl (is.getD j default) := fun j hj => chG (h2w _ (List.mem_of_getElem? (hisx j hj)))
      rw [List.map_append, List.map_cons, hgd] at hs
      have hfront := steps_front (g := ⟨g, ins⟩) (by rw [← hgd]; exact hCh i hlt) (l1 := l1.map fun i => is.getD i default) (l2 := l2.map fun i => is.getD i default) (fun x hx => by
        simp only [List.mem_map] at hx
        obtain ⟨j, hj, rfl⟩ := hx
        have hjm : j ∈ l1 ++ i :: l2 := List.mem_append_left _ hj
        have hjl := (hmem j).1 hjm
        have hji : j < i := by
          rw [List.pairwise_append] at hsort
          exact hsort.2.2 j hj i (by simp)
        refine ⟨?_, hCh j hjl.1⟩
        have hp := hpair j i hji hlt
        unfold pairOk at hp
        rw [hisx j hjl.1, hisx i hlt] at hp
        simp only [Bool.or_eq_true] at hp
        rcases hp with hp | hp
        · rwa [hgd] at hp
        · exfalso
          have := onPath_listed hcl ops.size i _ ho (hia _ ho) hp
          have h2 := hjl.2
          rw [Array.getD_eq_getD_getElem?, Array.getElem?_eq_getElem (show j < listed.size by omega)] at this h2
          simp only [Option.getD_some] at this h2
          rw [this] at h2; simp at h2) hs
      refine wpOp_mono ?_ (sim_gop p ho c1 c2 c3 c4 hfront)
      rintro a' w' ⟨q2, G', ρ', lam', st', q1, q3, q4, q5, q6⟩
      rw [← List.map_append] at q6
      have hset : ∀ j d, (listed.setIfInBounds i true).getD j d = if j = i then true else listed.getD j d := by
        intro j d
        rw [Array.getD_eq_getD_getElem?, Array.getD_eq_getD_getElem?, Array.getElem?_setIfInBounds]
        by_cases h : i = j
        · subst h; simp [show i < listed.size by omega]
        · have h' : j ≠ i := fun e => h e.symm
          simp [h, h']
      refine ih (rem := l1 ++ l2) ?_ (by simp [hsz]) ?_ ?_ ?_ ⟨q3, q1, q2⟩ ⟨f.good.trans q4, fun i b h => q5 i b (f.pre i b h)⟩ q6 hQ
      · simp only [List.length_append, List.length_cons] at hlen ⊢; omega
      · rw [List.pairwise_append] at hsort ⊢
        exact ⟨hsort.1, (List.pairwise_cons.1 hsort.2.1).2, fun x hx y hy => hsort.2.2 x hx y (by simp [hy])⟩
      · intro j
        rw [hset]
        by_cases hj : j = i
        · subst hj
          simp only [if_true, Bool.true_eq_false, and_false, iff_false]
          intro hjm
          rw [List.pairwise_append] at hsort
          rcases List.mem_append.1 hjm with h | h
          · have := hsort.2.2 j h j (by simp); omega
          · have := (List.pairwise_cons.1 hsort.2.1).1 j h; omega
        · simp only [hj, if_false]
          rw [← hmem j]
          simp [hj]
      · intro j o hoj hlj e he hb
        rw [hset] at hlj ⊢
        by_cases hj : j = i
        · subst hj
          rw [hia o hoj e he hb]; simp
        · simp only [hj, if_false] at hlj
          rw [hcl j o hoj hlj e he hb]; simp

theorem Pre.drawn (p : Pre n0 gl nt w G ρ lam a st) (n : Nat) : Pre n0 gl nt { w with drawn := n } G ρ lam a st ∧ Good w G { w with drawn := n } G := by
  have hk : Keeps w G { w with drawn := n } G := fun _ _ _ h => h
  have hs : ∀ L, SameL L L w G { w with drawn := n } G := fun _ _ _ h => ⟨rfl, h⟩
  refine ⟨⟨⟨fun t => (p.rel.tm t).tr hk (fun _ _ h => h) (fun _ _ h => h) (hs _), ?_, p.rel.nb, p.rel.ob.tr hk (fun _ => hs _) (fun _ _ => hs _), p.rel.gb.tr hk, p.rel.lt⟩, p.df, p.sz⟩, ?_⟩
  · intro t cs hb
    obtain ⟨b, h1, h2⟩ := p.rel.bx t cs hb
    exact ⟨b, h1, RelBox.tr hk (fun _ _ h => h) (hs _) (fun _ => hs _) h2⟩
  · exact ⟨Nat.le_refl _, fun _ _ _ => ⟨rfl, rfl⟩, fun b n hb hG => absurd (p.rel.lt _ _ _ hG) (Nat.not_lt.2 hb), fun _ _ _ h => h, hk, rfl, rfl⟩

theorem anyLaw (P : Program) (gl : Nat → List D) : AnyLaw P gl := by
  intro n0 nt an m id ops is w G ρ lam a st K hc hok p hs
  unfold anyOk at hok
  simp only [Bool.and_eq_true, List.all_eq_true, Bool.not_eq_true', List.mem_range] at hok
  obtain ⟨⟨⟨h1, h2⟩, h3⟩, h4⟩ := hok
  refine wp_region_any h1 ?_
  obtain ⟨p', hg⟩ := p.drawn (w.drawn + 1)
  have hmap : ((List.range ops.size).map fun i => is.getD i default) = is := by
    have hl := (compOps_get hc).1
    apply List.ext_getElem?
    intro i
    rw [List.getElem?_map]
    by_cases hi : i < ops.size
    · rw [List.getElem?_range hi]
      have : i < is.length := by rw [hl]; simpa using hi
      rw [List.getElem?_eq_getElem this]
      simp [List.getD_eq_getElem?_getD, List.getElem?_eq_getElem this]
    · have h5 : is.length ≤ i := by rw [hl]; simpa using hi
      rw [List.getElem?_eq_none h5, List.getElem?_eq_none (by simpa using hi)]; rfl
  refine any_run (rem := List.range ops.size) (K := K .normal) hc h2 (fun g hg => h3 g hg) (fun i j hij hj => h4 j hj i hij) ops.size (by simp) (by simp) ?_ ?_ ?_ p' ⟨hg, fun _ _ h => h⟩ (by rw [hmap]; exact hs) fun a' w' h => h
  · exact List.pairwise_lt_range
  · intro i
    simp only [List.mem_range]
    constructor
    · intro h; refine ⟨h, ?_⟩; rw [Array.getD_eq_getD_getElem?]; simp [h]
    · exact fun h => h.1
  · intro j o hoj hl
    have hj : j < ops.size := by
      rcases Nat.lt_or_ge j ops.size with h | h
      · exact h
      · rw [Array.getElem?_eq_none h] at hoj; simp at hoj
    rw [Array.getD_eq_getD_getElem?] at hl
    simp [hj] at hl

end
end Go.Vm
end

section
/- Ranges over functions: a round's code. Conditions: none. -/
namespace Go.Vm

section
variable {P : Program} {gl : Nat → List D} {n0 nt : Nat} {a : Act} {w w' w0 : World} {G G' G0 : Gh} {ρ ρ' ρ0 : List Nat} {lam lam' : Nat → Option Nat} {st st' : St} {K : St → Prop} {o : Oper} {Q : Exit → Act → World → Prop}

theorem compOp_noDefer {an : Ann} {m : AMap} {i : I} (h : compOp P an m o = some i) : ∀ c, o.op ≠ .defer c := by
  intro c he
  unfold compOp at h
  rw [he] at h
  simp at h

/-- An operation of a round. -/
theorem oper_in {l n : Nat} {next : Act → World → Prop} (hd : ∀ c, o.op ≠ .defer c) (h : o.wp P a w next Q) : o.wpIn (Fence.wide.inRound l) n P a w next Q := by
  refine ⟨fun _ _ => trivial, ?_⟩
  rw [Oper.semAt_eq _ _ _ hd]
  unfold Oper.wp at h
  generalize (execOp a.eval o).run P w = r at h
  cases r with
  | ok nx w' =>
    cases nx with
    | value v => exact h
    | skip => exact h
    | defer d => exact h
    | enter f args => exact ⟨fun h => by simp [Fence.wide, Fence.inRound] at h, CallsIn.inRound l (callsIn_wide.2 h)⟩
    | row r args =>
      refine ⟨fun h => by simp [Fence.wide, Fence.inRound] at h, ?_⟩
      intro c cs _
      obtain ⟨v, w2, h1, h2⟩ := h c cs
      exact ⟨v, w2, h1, stepsIn_wide.2 h2⟩
    | _ => exact h.elim
  | halt e w' => cases e <;> first | exact h | exact h.elim

theorem sim_opsR {l0 n : Nat} {ops : Array Oper} {an : Ann} : ∀ {l : List Oper} {k : Nat} {m : AMap} {is : List GI} {w : World} {G : Gh} {ρ : List Nat} {lam : Nat → Option Nat} {a : Act} {st : St},
    (∀ j, ops[k + j]? = l[j]?) → compOps P an nt ops m l = some is → Pre n0 gl nt w G ρ lam a st → Far w0 G0 ρ0 w G ρ → steps (AP P gl) gl is st K →
    (∀ a' w', After n0 gl nt w0 G0 ρ0 K a' w' → Q .normal a' w') → wpOpsIn (Fence.wide.inRound l0) n P ops Q (List.range' k l.length) a w
  | [], k, m, is, w, G, ρ, lam, a, st, _, hc, p, f, hs, hQ => by
    simp only [compOps, Option.some.injEq] at hc
    subst hc
    exact hQ _ _ (f.after (p.after hs))
  | o :: l, k, m, is, w, G, ρ, lam, a, st, hl, hc, p, f, hs, hQ => by
    simp only [compOps] at hc
    split at hc
    · rename_i i g is' h1 h2 h3
      split at hc
      · rename_i hd
        simp only [Bool.and_eq_true, decide_eq_true_eq] at hd
        simp only [Option.some.injEq] at hc
        subst hc
        rw [steps_cons] at hs
        rw [List.length_cons, List.range'_succ]
        have ho : ops[k]? = some o := by have := hl 0; simpa using this
        simp only [wpOpsIn, ho]
        have next : ∀ a' w', After n0 gl nt w G ρ (fun st => steps (AP P gl) gl is' st K) a' w' → wpOpsIn (Fence.wide.inRound l0) n P ops Q (List.range' (k + 1) l.length) a' w' := by
          rintro a' w' ⟨e2, G', ρ', lam', st', e1, e3, e4, e5, e6⟩
          refine sim_opsR (l := l) (k := k + 1) (m := amapOf P m o) (fun j => ?_) h3 ⟨e3, e1, e2⟩ ⟨f.good.trans e4, fun i b h => e5 i b (f.pre i b h)⟩ e6 hQ
          have := hl (j + 1)
          rw [show k + 1 + j = k + (j + 1) by omega, this]; rfl
        rcases guard_spec h2 p.rel.tm with ⟨rfl, hw⟩ | ⟨s, want, rfl, ⟨b, hb, hw⟩ | ⟨hb, hw⟩ | ⟨g1, g2⟩⟩
        · rw [hw]; simp only [if_true]
          exact oper_in (compOp_noDefer h1) (Oper.wp_mono next (sim_step p h1 hd.1 hs))
        · rw [hw]
          simp only [steps, hb] at hs
          cases hc : cond want b (!b) with
          | true => rw [hc] at hs; simp only [if_true]; exact oper_in (compOp_noDefer h1) (Oper.wp_mono next (sim_step p h1 hd.1 hs))
          | false => rw [hc] at hs; simp only [Bool.false_eq_true, if_false]; exact ⟨fun _ _ => trivial, next _ _ (skip_after p hd.2.symm hd.1 hs)⟩
        · rw [hw]
          simp only [steps, hb] at hs
          simp only [Bool.false_eq_true, if_false]
          exact ⟨fun _ _ => trivial, next _ _ (skip_after p hd.2.symm hd.1 hs)⟩
        · exfalso
          simp only [steps] at hs
          first
            | exact hs
            | (split at hs
               · rename_i b hb; exact g1 b hb
               · rename_i hb; exact g2 hb
               · exact hs)
      · simp at hc
    · simp at hc

theorem run_seq_postR {l0 n : Nat} {K : Ex → St → Prop} {b : VC} {y : Code} (hy : ∀ {w : World} {G : Gh} {ρ : List Nat} {lam : Nat → Option Nat} {a : Act} {st : St}, Pre n0 gl nt w G ρ lam a st → Far w0 G0 ρ0 w G ρ →
      run (AP P gl) gl b st K → y.wpIn (Fence.wide.inRound l0) n P (Post n0 gl nt w0 G0 ρ0 K) a w) {e : Exit} {a' : Act} {w' : World}
    (h : Post n0 gl nt w0 G0 ρ0 (fun x st => match x with | .normal => run (AP P gl) gl b st K | x => K x st) e a' w') :
    Exit.then (y.wpIn (Fence.wide.inRound l0) n P (Post n0 gl nt w0 G0 ρ0 K)) (Post n0 gl nt w0 G0 ρ0 K) e a' w' := by
  cases e with
  | normal =>
    obtain ⟨e2, G', ρ', lam', st', e1, e3, e4, e5, e6⟩ := h
    exact hy ⟨e3, e1, e2⟩ ⟨e4, e5⟩ e6
  | exit i => exact h
  | ret => exact h
  | _ => exact h.elim

/-- A round's code. -/
theorem sim_codeR {l0 n : Nat} {an : Ann} {m : AMap} : ∀ (c : Code) {l l' : List (List Nat × List Nat)} {vc : VC} {w0 w : World} {G0 G : Gh} {ρ0 ρ : List Nat} {lam : Nat → Option Nat} {a : Act} {st : St} {K : Ex → St → Prop},
    compC P an nt m c l = some (vc, l') → plainV vc = true → Pre n0 gl nt w G ρ lam a st → Far w0 G0 ρ0 w G ρ → run (AP P gl) gl vc st K → c.wpIn (Fence.wide.inRound l0) n P (Post n0 gl nt w0 G0 ρ0 K) a w := by
  intro c
  induction c with
  | skip =>
    intro l l' vc w0 w G0 G ρ0 ρ lam a st K hc hv p f hr
    simp only [compC, Option.some.injEq, Prod.mk.injEq] at hc
    obtain ⟨rfl, rfl⟩ := hc
    exact wpIn_skip (f.after (p.after hr))
  | region id ops dr =>
    intro l l' vc w0 w G0 G ρ0 ρ lam a st K hc hv p f hr
    simp only [compC] at hc
    split at hc
    · rename_i is his
      cases dr with
      | true =>
        simp only [if_true, Option.ite_none_right_eq_some, Option.some.injEq, Prod.mk.injEq] at hc
        obtain ⟨hok, rfl, rfl⟩ := hc
        simp [plainV] at hv
      | false =>
        simp only [Bool.false_eq_true, if_false, Option.some.injEq, Prod.mk.injEq] at hc
        obtain ⟨rfl, rfl⟩ := hc
        refine wpIn_region ?_
        have : List.range ops.size = List.range' 0 ops.toList.length := by rw [List.range_eq_range', Array.length_toList]
        rw [this]
        exact sim_opsR (fun j => by simp) his p f hr fun a' w' h => h
    · simp at hc
  | seq x y ihx ihy =>
    intro l l' vc w0 w G0 G ρ0 ρ lam a st K hc hv p f hr
    simp only [compC] at hc
    split at hc
    · rename_i vx l1 hx
      split at hc
      · rename_i vy l2 hy
        simp only [Option.some.injEq, Prod.mk.injEq] at hc
        obtain ⟨rfl, rfl⟩ := hc
        simp only [plainV, Bool.and_eq_true] at hv
        refine wpIn_seq (wpIn_mono (ihx hx hv.1 p f hr) fun e a w h => ?_)
        exact run_seq_postR (fun p f hr => ihy hy hv.2 p f hr) h
      · simp at hc
    · simp at hc
  | cond c x y ihx ihy =>
    intro l l' vc w0 w G0 G ρ0 ρ lam a st K hc hv p f hr
    simp only [compC] at hc
    split at hc
    · rename_i vx co l1 ho hx
      split at hc
      · rename_i vy l2 hy
        simp only [Option.some.injEq, Prod.mk.injEq] at hc
        obtain ⟨rfl, rfl⟩ := hc
        simp only [plainV, Bool.and_eq_true] at hv
        simp only [run] at hr
        obtain ⟨L, hT⟩ := ev_any ho p.rel
        split at hr
        · rename_i t ht
          rw [ht] at hT
          cases t with
          | true => exact wpIn_cond_true hT.bool (ihx hx hv.1 p f hr)
          | false => exact wpIn_cond_false hT.bool (ihy hy hv.2 p f hr)
        · exact hr.elim
      · simp at hc
    · simp at hc
  | block i b ih =>
    intro l l' vc w0 w G0 G ρ0 ρ lam a st K hc hv p f hr
    simp only [compC] at hc
    split at hc
    · rename_i vb l1 hb
      simp only [Option.some.injEq, Prod.mk.injEq] at hc
      obtain ⟨rfl, rfl⟩ := hc
      simp only [plainV] at hv
      refine wpIn_block (wpIn_mono (ih hb hv p f hr) fun e a w h => ?_)
      cases e with
      | normal => exact h
      | ret => exact h
      | exit j =>
        obtain ⟨e2, G', ρ', lam', st', e1, e3, e4, e5, e6⟩ := h
        simp only at e6
        simp only [Exit.inBlock]
        by_cases hj : j = i
        · subst hj
          simp only [Nat.beq_refl, cond] at e6
          simp only [if_true]
          exact ⟨e2, G', ρ', lam', st', e1, e3, e4, e5, e6⟩
        · have : Nat.beq j i = false := by rw [Bool.eq_false_iff]; intro h'; exact hj (Nat.eq_of_beq_eq_true h')
          simp only [this, cond] at e6
          simp only [hj, if_false]
          exact ⟨e2, G', ρ', lam', st', e1, e3, e4, e5, e6⟩
      | _ => exact h.elim
    · simp at hc
  | loop b ih =>
    intro l l' vc w0 w G0 G ρ0 ρ lam a st K hc hv p f hr
    cases l with
    | nil => simp [compC] at hc
    | cons q l =>
      obtain ⟨ts, bs⟩ := q
      simp only [compC] at hc
      split at hc
      · simp only [Option.some.injEq, Prod.mk.injEq] at hc
        obtain ⟨rfl, rfl⟩ := hc
        simp [plainV] at hv
      · simp at hc
  | exit i =>
    intro l l' vc w0 w G0 G ρ0 ρ lam a st K hc hv p f hr
    simp only [compC, Option.some.injEq, Prod.mk.injEq] at hc
    obtain ⟨rfl, rfl⟩ := hc
    exact wpIn_exit (f.after (p.after hr))
  | ret =>
    intro l l' vc w0 w G0 G ρ0 ρ lam a st K hc hv p f hr
    simp only [compC, Option.some.injEq, Prod.mk.injEq] at hc
    obtain ⟨rfl, rfl⟩ := hc
    exact wpIn_ret (f.after (p.after hr))
  | rangeFunc g ps x y _ _ =>
    intro l l' vc w0 w G0 G ρ0 ρ lam a st K hc hv p f hr
    simp only [compC] at hc
    split at hc
    · simp only [Option.ite_none_right_eq_some, Option.some.injEq, Prod.mk.injEq] at hc
      obtain ⟨_, rfl, _⟩ := hc
      simp [plainV] at hv
    · simp at hc
  | scope _ => intro l l' vc w0 w G0 G ρ0 ρ lam a st K hc; simp [compC] at hc
  | label _ => intro l l' vc w0 w G0 G ρ0 ρ lam a st K hc; simp [compC] at hc
  | goto _ => intro l l' vc w0 w G0 G ρ0 ρ lam a st K hc; simp [compC] at hc
  | refuse _ => intro l l' vc w0 w G0 G ρ0 ρ lam a st K hc; simp [compC] at hc

end
end Go.Vm
end

section
/- Ranges over functions: the statement. Conditions: none. -/
namespace Go.Vm

section
variable {P : Program} {gl : Nat → List D} {n0 nt : Nat} {a : Act} {w w' w0 : World} {G G' G0 : Gh} {ρ ρ' ρ0 : List Nat} {lam lam' : Nat → Option Nat} {st st' : St} {K : St → Prop} {o : Oper} {Q : Exit → Act → World → Prop}

theorem cool_rel {L : Loc} {v : Value} {x : Val} (h : RelT w G ρ lam L v x) : RelA w G ρ v (cool x) := by
  rcases h.cases with h | ⟨t, off, b, rfl, _, _⟩
  · rcases h.cases with h | ⟨sz, d, l, rfl, h⟩
    · cases h with
      | nil a sz => exact .d _ _ (.list0 _ _ _)
      | undef v => exact .undef v
      | d v x h' => exact .d v x h'
      | ptr _ _ _ h' => exact .ptr _ _ _ h'
      | map _ _ h' => exact .map _ _ h'
      | sl _ _ _ _ _ _ h' => exact .sl _ _ _ _ _ _ h'
      | func _ _ _ _ _ h1 h2 => exact .func _ _ _ _ _ h1 h2
      | agg _ _ h' => exact .agg _ _ h'
      | tuple _ _ h' => exact .tuple _ _ h'
      | yl _ _ h' => exact .yl _ _ h'
    · exact .d _ _ h.rd
  · exact .undef _

theorem listS_rd {L : Loc} {v : Value} {x : Val} {sz : Nat} {l : List D} (h : RelV w G ρ L v x) (hl : listS x = some (sz, l)) : Rd w G v (.list sz l) ∧ v.oneCell' = true := by
  have hs : ∀ {v : Value} {sz : Nat} {l : List D}, Rd w G v (.list sz l) → v.oneCell' = true := by
    intro v sz l h
    cases h <;> rfl
  cases x with
  | d y =>
    cases y <;> simp only [listS, Option.some.injEq, Prod.mk.injEq, reduceCtorEq] at hl
    obtain ⟨rfl, rfl⟩ := hl
    have h' : RelA w G ρ v (.d (.list _ _)) := h
    cases h' with
    | d _ _ h => exact ⟨h, hs h⟩
  | own sz' l' =>
    simp only [listS, Option.some.injEq, Prod.mk.injEq] at hl
    obtain ⟨rfl, rfl⟩ := hl
    cases l' with
    | nil =>
      have h' : RelA w G ρ v (.own _ []) := h
      cases h' with
      | nil a _ => exact ⟨.list0 _ _ _, rfl⟩
    | cons d l' =>
      have h' : OwnRel w G L v _ (d :: l') := h
      exact ⟨h'.rd, hs h'.rd⟩
  | _ => simp [listS] at hl

/-- A new block that nobody owns. -/
theorem alloc_keeps (o : Obj) : Keeps w G (w.alloc o) G := by
  intro b off v h
  refine ⟨?_, h.2⟩
  have hb : b < w.heap.size := by
    have := h.1
    unfold World.cell? at this
    rcases Nat.lt_or_ge b w.heap.size with h' | h'
    · exact h'
    · rw [Array.getElem?_eq_none h'] at this; simp at this
  rw [World.cell?_of_block (Go.RowKit.Below.heap_alloc w o b hb)]
  exact h.1

theorem alloc_same (o : Obj) (hlt : ∀ b L n, G b = some (L, n) → b < w.heap.size) (L : Loc) : SameL L L w G (w.alloc o) G :=
  fun b _ hb => ⟨Go.RowKit.Below.heap_alloc w o b (hlt _ _ _ hb), hb⟩

theorem alloc_good (o : Obj) (hlt : ∀ b L n, G b = some (L, n) → b < w.heap.size) : Good w G (w.alloc o) G where
  size := by rw [World.size_alloc]; omega
  imm b hb _ := ⟨Go.RowKit.Below.heap_alloc w o b hb, rfl⟩
  new b n hb hG := absurd (hlt _ _ _ hG) (Nat.not_lt.2 hb)
  old _ _ _ h := h
  keep := alloc_keeps o
  os := rfl
  out := rfl

/-- What is known of the function's frame between two rounds. -/
structure Still (w0 : World) (G0 : Gh) (ρ0 : List Nat) (a : Act) (tm0 : Nat → Val) (r : Loop) (W : World) (G : Gh) (ρ : List Nat) : Prop where
  tm : ∀ t, RelA W G ρ0 (a.tmps.getD t undef) (tm0 t)
  far : Far w0 G0 ρ0 W G ρ
  rcd : W.heap[w0.heap.size + 1]? = some (.loop r)
  rcdG : G (w0.heap.size + 1) = none
  blk : W.heap[w0.heap.size]? = some (.deferred (some []))
  blkG : G w0.heap.size = none

/-- What is known of the world. -/
structure Wd (gl : Nat → List D) (W : World) (G : Gh) (ρ : List Nat) (s : Store) : Prop where
  ob : RelObs W G ρ s
  gb : RelG gl W G
  lt : ∀ b L n, G b = some (L, n) → b < W.heap.size

theorem Still.rel {tm0 : Nat → Val} {r : Loop} {W : World} {s : Store} (h : Still w0 G0 ρ0 a tm0 r W G ρ) (hw : Wd gl W G ρ s) : RelS gl W G ρ (fun _ => none) a.tmps ⟨tm0, fun _ => none, s⟩ where
  tm t := .of_A ((h.tm t).keep (Keeps.refl _ _) h.far.pre)
  bx t cs hc := by simp at hc
  nb _ _ := rfl
  ob := hw.ob
  gb := hw.gb
  lt := hw.lt

/-- The record is written anew. -/
theorem Still.put {tm0 : Nat → Val} {r : Loop} {W : World} (h : Still w0 G0 ρ0 a tm0 r W G ρ) (r' : Loop) : Still w0 G0 ρ0 a tm0 r' (W.putObj (w0.heap.size + 1) (.loop r')) G ρ := by
  have hk := put_keeps (G := G) (o' := .loop r') h.rcd rfl
  exact ⟨fun t => (h.tm t).keep hk fun _ _ h => h, ⟨h.far.good.putObj h.rcd rfl (by omega), h.far.pre⟩, World.putObj_heap_same (Array.getElem?_eq_some_iff.1 h.rcd).1, h.rcdG, (World.putObj_heap_other (by omega)).trans h.blk, h.blkG⟩

theorem Still.putW {tm0 : Nat → Val} {r : Loop} {W : World} {s : Store} (h : Still w0 G0 ρ0 a tm0 r W G ρ) (hw : Wd gl W G ρ s) (r' : Loop) : Wd gl (W.putObj (w0.heap.size + 1) (.loop r')) G ρ s := by
  have hk := put_keeps (G := G) (o' := .loop r') h.rcd rfl
  have hs := fun L => put_same (w := W) (o' := .loop r') h.rcdG L
  exact ⟨hw.ob.tr hk (fun _ => hs _) (fun _ _ => hs _), hw.gb.tr hk, fun b L n hb => by rw [World.putObj_size]; exact hw.lt b L n hb⟩

/-- A run leaves it so. -/
theorem Still.run {tm0 : Nat → Val} {r : Loop} {W W' : World} {G' : Gh} {ρ' : List Nat} (h : Still w0 G0 ρ0 a tm0 r W G ρ) (hg : Good W G W' G') (hρ : ∀ i b : Nat, ρ0[i]? = some b → ρ'[i]? = some b) :
    Still w0 G0 ρ0 a tm0 r W' G' ρ' := by
  have h1 := hg.imm _ (Array.getElem?_eq_some_iff.1 h.rcd).1 (.inl h.rcdG)
  have h2 := hg.imm _ (Array.getElem?_eq_some_iff.1 h.blk).1 (.inl h.blkG)
  exact ⟨fun t => (h.tm t).keep hg.keep fun _ _ h => h, ⟨h.far.good.trans hg, hρ⟩, h1.1.trans h.rcd, h1.2.trans h.rcdG, h2.1.trans h.blk, h2.2.trans h.blkG⟩

theorem RelS.wd {tmps : Array Value} (h : RelS gl w G ρ lam tmps st) : Wd gl w G ρ st.s := ⟨h.ob, h.gb, h.lt⟩

end
end Go.Vm
end

section
/- Ranges over functions: one round. Conditions: none. -/
namespace Go.Vm

section
variable {P : Program} {gl : Nat → List D} {n0 nt : Nat} {a : Act} {w w' w0 : World} {G G' G0 : Gh} {ρ ρ' ρ0 : List Nat} {lam lam' : Nat → Option Nat} {st st' : St} {o : Oper} {Q : Exit → Act → World → Prop}

/-- What a jump stands for. -/
def jumpEx : Code → Option Ex
  | .ret => some .ret
  | .exit i => some (.exit i)
  | _ => none

def setV (tmps : Array Value) : List Nat → List Value → Array Value
  | p :: ps, v :: vs => setV (tmps.setIfInBounds p v) ps vs
  | _, _ => tmps

theorem setV_size : ∀ (ps : List Nat) (vs : List Value) (tmps : Array Value), (setV tmps ps vs).size = tmps.size
  | [], _, _ => by simp [setV]
  | _ :: _, [], _ => by simp [setV]
  | p :: ps, v :: vs, tmps => by simp [setV, setV_size ps vs]

theorem setV_fold (ps : List Nat) (vs : List Value) (tmps : Array Value) :
    (((⟨ps⟩ : Array Nat).zip (⟨vs⟩ : Array Value)).foldl (fun tmps (x : Nat × Value) => match x with | (t, a) => tmps.setIfInBounds t a) tmps) = setV tmps ps vs := by
  have e : ((⟨ps⟩ : Array Nat).zip (⟨vs⟩ : Array Value)) = ⟨ps.zip vs⟩ := by
    apply Array.ext'; simp
  rw [e]
  simp only [List.foldl_toArray']
  induction ps generalizing vs tmps with
  | nil => simp [setV]
  | cons p ps ih =>
    cases vs with
    | nil => simp [setV]
    | cons v vs => simp only [List.zip_cons_cons, List.foldl_cons, setV]; exact ih vs _ (by apply Array.ext'; simp)

theorem round_tmps {gl : Nat → List D} {W : World} {G : Gh} {ρ : List Nat} : ∀ {ps : List Nat} {vs : List Value} {xs : List Val} {tmps : Array Value} {st0 : St}, RelS gl W G ρ (fun _ => none) tmps st0 → (∀ p, p ∈ ps → p < tmps.size) →
    RelL W G ρ vs xs → RelS gl W G ρ (fun _ => none) (setV tmps ps vs) { st0 with tm := setPs st0.tm ps xs }
  | [], vs, xs, tmps, st0, h, _, _ => by simpa [setV, setPs] using h
  | p :: ps, vs, xs, tmps, st0, h, hp, hr => by
    cases hr with
    | nil => simpa [setV, setPs] using h
    | cons v x vs xs h1 h2 =>
      simp only [setV, setPs]
      exact round_tmps (st0 := st0.set p x) (h.set (hp p (by simp)) (.of_A h1)) (fun q hq => by simpa using hp q (by simp [hq])) h2

/-- One round. -/
theorem round_sim {an : Ann} {m : AMap} {x y : Code} {l1 l2 l3 l4 : List (List Nat × List Nat)} {va vb : VC} (ha : compC P an nt m x l1 = some (va, l2)) (hb : compC P an nt m y l3 = some (vb, l4)) (hpa : plainV va = true) (hpb : plainV vb = true)
    {tm0 : Nat → Val} {r : Loop} (hst : r.state = .ready) (_hpend : r.pending = none) {W : World} {s : Store} (h : Still w0 G0 ρ0 a tm0 r W G ρ) (hw : Wd gl W G ρ s) {ps : List Nat} {vs : List Value} {xs : List Val}
    (hps : ∀ p, p ∈ ps → p < a.tmps.size) (hsz : nt ≤ a.tmps.size) (rr : RelL W G ρ vs xs) {KB : Option Ex → Store → Prop} {f n : Nat}
    (hr : roundY (AP P gl) (run (AP P gl) gl va) (run (AP P gl) gl vb) ps ⟨tm0, fun _ => none, s⟩ xs s KB) :
    RoundIn Fence.wide n P (w0.heap.size + 1) f (setV a.tmps ps vs) x y W fun e W' =>
      ∃ c G' ρ' s', e = .returned (.bool (c : Option Code).isNone) ∧ (∀ j, c = some j → (jumpEx j).isSome = true) ∧ Still w0 G0 ρ0 a tm0 { r with state := if c.isNone then .ready else .done, pending := c } W' G' ρ' ∧ Wd gl W' G' ρ' s' ∧
        Keeps W G W' G' ∧ (∀ b, b ≠ w0.heap.size + 1 → b < W.heap.size → G b = none → W'.heap[b]? = W.heap[b]? ∧ G' b = none) ∧ (∀ i b : Nat, ρ[i]? = some b → ρ'[i]? = some b) ∧ KB (c.bind jumpEx) s' := by
  have hrel := round_tmps (h.rel hw) hps rr
  have p : Pre 0 gl nt W G ρ (fun _ => none) { tmps := setV a.tmps ps vs, defers := [] } { tm := setPs tm0 ps xs, bx := fun _ => none, s := s } := ⟨hrel, .nil, by rw [setV_size]; exact hsz⟩
  refine roundIn_of_wpIn trivial ?_
  obtain ⟨_, hr⟩ := hr
  refine wpIn_mono (sim_codeR x ha hpa p p.far hr) ?_
  intro e a1 W1 hpost
  cases e with
  | normal =>
    obtain ⟨q2, G1, ρ1, lam1, st1, q1, q3, q4, q5, q6⟩ := hpost
    have s1 := h.run q4 (fun i b hi => q5 i b (h.far.pre i b hi))
    refine ⟨_, run_beginRound s1.rcd hst, ?_⟩
    have s2 := s1.put { r with state := .busy }
    have g2 : Keeps W G (W1.putObj (w0.heap.size + 1) (.loop { r with state := .busy })) G1 := q4.keep.trans (put_keeps s1.rcd rfl)
    have p2 : Pre 0 gl nt (W1.putObj (w0.heap.size + 1) (.loop { r with state := .busy })) G1 ρ1 lam1 a1 st1 := by
      refine ⟨q3.putObj s1.rcd rfl s1.rcdG, ?_, q2⟩
      obtain ⟨Ds, e1, e2, e3⟩ := q1
      refine ⟨Ds, e1, e2, fun D hD => ?_⟩
      obtain ⟨g1, g2, g3⟩ := e3 D hD
      have hne : D ≠ w0.heap.size + 1 := by intro e; subst e; rw [s1.rcd] at g2; simp at g2
      exact ⟨g1, (World.putObj_heap_other hne).trans g2, g3⟩
    refine wpIn_mono (sim_codeR y hb hpb p2 p2.far q6) ?_
    have fin : ∀ (jump : Option Code) {W2 : World} {G2 : Gh} {ρ2 : List Nat} {lam2 : Nat → Option Nat} {a2 : Act} {st2 : St}, RelS gl W2 G2 ρ2 lam2 a2.tmps st2 → Good (W1.putObj (w0.heap.size + 1) (.loop { r with state := .busy })) G1 W2 G2 →
        (∀ i b : Nat, ρ1[i]? = some b → ρ2[i]? = some b) → ∃ W', (Instr.endRound (w0.heap.size + 1) jump).run P W2 = .ok (.bool jump.isNone) W' ∧
          Still w0 G0 ρ0 a tm0 { r with state := if jump.isNone then .ready else .done, pending := jump } W' G2 ρ2 ∧ Wd gl W' G2 ρ2 st2.s ∧ Keeps W G W' G2 ∧ (∀ b, b ≠ w0.heap.size + 1 → b < W.heap.size → G b = none → W'.heap[b]? = W.heap[b]? ∧ G2 b = none) ∧ (∀ i b : Nat, ρ[i]? = some b → ρ2[i]? = some b) := by
      intro jump W2 G2 ρ2 lam2 a2 st2 t1 t2 t3
      have s3 := s2.run t2 (fun i b hi => t3 i b (q5 i b (h.far.pre i b hi)))
      exact ⟨_, run_endRound jump s3.rcd, s3.put _, s3.putW t1.wd _, (g2.trans t2.keep).trans (put_keeps s3.rcd rfl), fun b hb1 hb2 hb3 => by
        obtain ⟨i1, i2⟩ := q4.imm b hb2 (.inl hb3)
        rw [hb3] at i2
        obtain ⟨i3, i4⟩ := t2.imm b (by rw [World.putObj_size]; exact Nat.lt_of_lt_of_le hb2 q4.size) (.inl i2)
        exact ⟨(World.putObj_heap_other hb1).trans (i3.trans ((World.putObj_heap_other hb1).trans i1)), i4.trans i2⟩, fun i b hi => t3 i b (q5 i b hi)⟩
    intro e a2 W2 hpost
    cases e with
    | normal =>
      obtain ⟨t2, G2, ρ2, lam2, st2, t1, t3, t4, t5, t6⟩ := hpost
      obtain ⟨W', hrun, s4, s5, s6, s8, s7⟩ := fin none t3 t4 t5
      exact ⟨_, W', hrun, none, G2, ρ2, st2.s, rfl, fun j hj => by simp at hj, s4, s5, s6, s8, s7, t6⟩
    | ret =>
      obtain ⟨t2, G2, ρ2, lam2, st2, t1, t3, t4, t5, t6⟩ := hpost
      obtain ⟨W', hrun, s4, s5, s6, s8, s7⟩ := fin (some .ret) t3 t4 t5
      exact ⟨_, W', hrun, some .ret, G2, ρ2, st2.s, rfl, fun j hj => by cases hj; rfl, s4, s5, s6, s8, s7, t6⟩
    | exit i =>
      obtain ⟨t2, G2, ρ2, lam2, st2, t1, t3, t4, t5, t6⟩ := hpost
      obtain ⟨W', hrun, s4, s5, s6, s8, s7⟩ := fin (some (.exit i)) t3 t4 t5
      exact ⟨_, W', hrun, some (.exit i), G2, ρ2, st2.s, rfl, fun j hj => by cases hj; rfl, s4, s5, s6, s8, s7, t6⟩
    | _ => exact hpost.elim
  | exit i => obtain ⟨_, _, _, _, _, _, _, _, _, h⟩ := hpost; exact h.elim
  | ret => obtain ⟨_, _, _, _, _, _, _, _, _, h⟩ := hpost; exact h.elim
  | _ => exact hpost.elim

end
end Go.Vm
end

section
/- Ranges over functions: the iterator's code. Conditions: none. -/
namespace Go.Vm

section
variable {P : Program} {gl : Nat → List D} {n0 nt : Nat} {a : Act} {w w' w0 : World} {G G' G0 : Gh} {ρ ρ' ρ0 : List Nat} {lam lam' : Nat → Option Nat} {st st' : St} {o : Oper} {Q : Exit → Act → World → Prop}
variable {O : Option Ex → World → Gh → List Nat → Prop} {Y : Yd Prop} {yi lb : Nat}

/-- What is kept of the function that ranges. -/
structure Keep (O : Option Ex → World → Gh → List Nat → Prop) (ρ0 : List Nat) (lb : Nat) : Prop where
  run : ∀ p W G ρ W' G' ρ', O p W G ρ → Good W G W' G' → (∀ i b : Nat, ρ0[i]? = some b → ρ'[i]? = some b) → O p W' G' ρ'
  pre : ∀ p W G ρ, O p W G ρ → ∀ i b : Nat, ρ0[i]? = some b → ρ[i]? = some b
  rcd : ∀ p W G ρ, O p W G ρ → ∃ r, W.heap[lb]? = some (.loop r)

/-- What a call of yield does. -/
def YieldOk (P : Program) (gl : Nat → List D) (O : Option Ex → World → Gh → List Nat → Prop) (Y : Yd Prop) (lb m : Nat) : Prop :=
  ∀ (W : World) (G : Gh) (ρ : List Nat) (s : Store) (vs : List Value) (xs : List Val) (KB : Option Ex → Store → Prop), O none W G ρ → Wd gl W G ρ s → RelL W G ρ vs xs → Y xs s KB →
    YieldAt Fence.wide m P lb ⟨vs⟩ W fun e W' => ∃ (p' : Option Ex) (G' : Gh) (ρ' : List Nat) (s' : Store), e = .returned (.bool p'.isNone) ∧ O p' W' G' ρ' ∧ Wd gl W' G' ρ' s' ∧ Keeps W G W' G' ∧
      (∀ b, b ≠ lb → b < W.heap.size → G b = none → W'.heap[b]? = W.heap[b]? ∧ G' b = none) ∧ (∀ i b : Nat, ρ[i]? = some b → ρ'[i]? = some b) ∧ KB p' s'

def AfterY (n0 : Nat) (gl : Nat → List D) (nt : Nat) (O : Option Ex → World → Gh → List Nat → Prop) (K : St → Option Ex → Prop) (a' : Act) (w' : World) : Prop :=
  nt ≤ a'.tmps.size ∧ ∃ G' ρ' lam' st' p', Marks n0 w' G' a'.defers ∧ RelS gl w' G' ρ' lam' a'.tmps st' ∧ O p' w' G' ρ' ∧ K st' p'

def PostY (n0 : Nat) (gl : Nat → List D) (nt : Nat) (O : Option Ex → World → Gh → List Nat → Prop) (K : Ex → St → Option Ex → Prop) : Exit → Act → World → Prop
  | .normal, a', w' => AfterY n0 gl nt O (K .normal) a' w'
  | .exit i, a', w' => AfterY n0 gl nt O (K (.exit i)) a' w'
  | .ret, a', w' => AfterY n0 gl nt O (K .ret) a' w'
  | _, _, _ => False

theorem after_Y {pp : Option Ex} {K : St → Option Ex → Prop} {a' : Act} (hk : Keep O ρ0 lb) (ho : O pp w G ρ) (h : After n0 gl nt w G ρ (fun st => K st pp) a' w') : AfterY n0 gl nt O K a' w' := by
  obtain ⟨e2, G', ρ', lam', st', e1, e3, e4, e5, e6⟩ := h
  exact ⟨e2, G', ρ', lam', st', pp, e1, e3, hk.run _ _ _ _ _ _ _ ho e4 (fun i b hi => e5 i b (hk.pre _ _ _ _ ho i b hi)), e6⟩

/-- An operation, within the widest fence. -/
theorem oper_wide {n : Nat} {next : Act → World → Prop} (h : o.wp P a w next Q) : o.wpIn Fence.wide n P a w next Q := by
  refine ⟨fun _ _ => trivial, ?_⟩
  rw [show Fence.wide.round = none from rfl, Oper.semAt_none]
  unfold Oper.wp at h
  generalize (execOp a.eval o).run P w = r at h
  cases r with
  | ok nx w' =>
    cases nx with
    | value v => exact h
    | skip => exact h
    | defer d => exact h
    | enter f args => exact ⟨fun h => by simp [Fence.wide] at h, callsIn_wide.2 h⟩
    | row r args =>
      refine ⟨fun h => by simp [Fence.wide] at h, ?_⟩
      intro c cs _
      obtain ⟨v, w2, h1, h2⟩ := h c cs
      exact ⟨v, w2, h1, stepsIn_wide.2 h2⟩
    | _ => exact h.elim
  | halt e w' => cases e <;> first | exact h | exact h.elim

theorem Marks.keepY {l : List Deferred} (h : Marks n0 w G l) (hr : ∃ r, w.heap[lb]? = some (.loop r)) (hi : ∀ b, b ≠ lb → b < w.heap.size → G b = none → w'.heap[b]? = w.heap[b]? ∧ G' b = none) : Marks n0 w' G' l := by
  obtain ⟨Ds, h1, h2, h3⟩ := h
  refine ⟨Ds, h1, h2, fun D hD => ?_⟩
  obtain ⟨e1, e2, e3⟩ := h3 D hD
  have hne : D ≠ lb := by rintro rfl; obtain ⟨r, hr⟩ := hr; rw [hr] at e2; simp at e2
  obtain ⟨i1, i2⟩ := hi D hne (Array.getElem?_eq_some_iff.1 e2).1 e3
  exact ⟨e1, i1.trans e2, i2⟩

/-- Is it no call of a value? -/
def noCl : I → Bool
  | .cl .. => false
  | _ => true

theorem noCl_map {α : Type} {x : Option α} {f : α → I} {i : I} (hf : ∀ a, noCl (f a) = true) (h : x.map f = some i) : noCl i = true := by
  obtain ⟨a, _, rfl⟩ := Option.map_eq_some_iff.1 h
  exact hf a

theorem noCl_bind {α : Type} {x : Option α} {f : α → Option I} {i : I} (hf : ∀ a, f a = some i → noCl i = true) (h : x.bind f = some i) : noCl i = true := by
  obtain ⟨a, _, h⟩ := Option.bind_eq_some_iff.1 h
  exact hf a h

theorem cl_inv {an : Ann} {m : AMap} {d : Option Nat} {f : Vm.O} {args : List Vm.O} (h : compOp P an m o = some (.cl d f args)) :
    ∃ c fo t, o.op = .call c ∧ o.dst = d ∧ c.callee = .value fo ∧ opd P t fo = some f ∧ All2 (fun x y => ∃ t, opd P t x = some y) c.args.toList args := by
  have key : noCl (.cl d f args) = false := rfl
  by_cases hv : ∃ c fo, o.op = .call c ∧ c.callee = .value fo
  · obtain ⟨c, fo, hop, hc⟩ := hv
    unfold compOp at h
    rw [hop] at h
    simp only [hc, Option.bind_eq_bind, Option.bind_eq_some_iff] at h
    obtain ⟨ys, hy, h⟩ := h
    have hy := zipIdx_opd (f := fun _ i => c.argTypes.getD i 0) hy
    split at h
    · split at h
      · simp at h
      · split at h
        · simp at h
        · simp only [Option.some.injEq, I.cl.injEq] at h
          obtain ⟨rfl, rfl, rfl⟩ := h
          exact ⟨c, _, 0, hop, rfl, hc, rfl, hy⟩
    · simp only [Option.bind_eq_some_iff, Option.some.injEq, I.cl.injEq] at h
      obtain ⟨f1, hf, rfl, rfl, rfl⟩ := h
      exact ⟨c, _, 0, hop, rfl, hc, hf, hy⟩
  · exfalso
    have : noCl (.cl d f args) = true := by
      generalize I.cl d f args = i at h
      unfold compOp at h
      split at h
      case h_24 =>
        rename_i c hop
        split at h
        · exact absurd ⟨_, _, hop, ‹_›⟩ hv
        all_goals
          repeat' first
            | (cases h; done)
            | (cases h; rfl)
            | (refine noCl_map (fun _ => ?_) h <;> rfl)
            | (replace h := Option.bind_eq_some_iff.1 h; obtain ⟨_, _, h⟩ := h)
            | (split at h)
            | (dsimp only at h; split at h)
      all_goals
        repeat' first
          | (cases h; done)
          | (cases h; rfl)
          | (exact noCl_map (fun _ => rfl) h)
          | (refine noCl_map (fun _ => ?_) h; split <;> rfl)
          | (replace h := Option.bind_eq_some_iff.1 h; obtain ⟨_, _, h⟩ := h)
          | (split at h)
          | (dsimp only at h; split at h)
    rw [key] at this
    cases this

theorem stepY_cases {R : Type} {A : Alg R} {Y : Yd R} {i : I} {st : St} {pp : Option Ex} {K : St → Option Ex → R} :
    (∃ j d f args, i = .cl d f args ∧ ev gl st f = .yl j ∧ stepY A gl Y yi i st pp K = A.guard (Nat.beq j yi) (yieldY A gl Y d args st pp K)) ∨ stepY A gl Y yi i st pp K = step A gl i st fun st => K st pp := by
  cases i with
  | cl d f args =>
    cases hv : ev gl st f with
    | yl j => exact .inl ⟨j, d, f, args, rfl, hv, by simp only [stepY, calledV, hv]⟩
    | _ => exact .inr (by simp only [stepY, calledV, hv])
  | _ => exact .inr rfl

theorem Wd.cooled {W' : World} {s' : Store} (h : RelS gl w G ρ lam a.tmps st) (hw : Wd gl W' G' ρ' s') (hk : Keeps w G W' G') (hρ : ∀ i b : Nat, ρ[i]? = some b → ρ'[i]? = some b) :
    RelS gl W' G' ρ' (fun _ => none) a.tmps { st.cool with s := s' } where
  tm t := .of_A ((cool_rel (h.tm t)).keep hk hρ)
  bx t cs hc := by simp [St.cool] at hc
  nb _ _ := rfl
  ob := hw.ob
  gb := hw.gb
  lt := hw.lt

/-- A call of yield. -/
theorem sim_yield {n : Nat} {an : Ann} {m : AMap} {d : Option Nat} {f : Vm.O} {args : List Vm.O} {pp : Option Ex} {K : St → Option Ex → Prop} (hY : YieldOk P gl O Y lb (n - 1)) (hk : Keep O ρ0 lb) (hyi : ρ0[yi]? = some lb) (p : Pre n0 gl nt w G ρ lam a st)
    (ho : O pp w G ρ) (h : compOp P an m o = some (.cl d f args)) (hd : dstOk nt o = true) (hf : ev gl st f = .yl yi) (hs : yieldY (AP P gl) gl Y d args st pp K) : o.wpIn Fence.wide n P a w (AfterY n0 gl nt O K) Q := by
  obtain ⟨c, fo, t, hop, hdst, hc, hfo, hx⟩ := cl_inv h
  obtain ⟨hg, hs⟩ := hs
  simp only [Bool.and_eq_true] at hg
  obtain rfl : pp = none := by simpa using hg.1
  obtain ⟨L, hT⟩ := ev_any hfo p.rel
  rw [hf] at hT
  have hA : RelA w G ρ (a.eval fo) (.yl yi) := hT
  have hfv : a.eval fo = .func (.yield lb) #[] #[] := by
    generalize a.eval fo = v at hA
    cases hA with
    | yl _ l hl =>
      have := hk.pre _ _ _ _ ho yi lb hyi
      rw [hl] at this
      cases this; rfl
  have hargs := args_rel p hx hg.2
  obtain ⟨fn, tmps, assign, body, hrun, hround⟩ := hY w G ρ st.s _ _ _ ho p.rel.wd hargs hs
  have hr : (execOp a.eval o).run P w = .ok (.round lb fn tmps assign body) w := by
    have e : (#[] : Array Value) ++ (⟨c.args.toList.map a.eval⟩ : Array Value) ++ #[] = ⟨c.args.toList.map a.eval⟩ := by simp
    simp only [execOp, hop, Sem.run_bind, resolve, hc, hfv, Deferred.ofValue, Sem.run_pure, Result.andThen_ok, invoke]
    rw [← hrun]
    congr 2
    apply Array.ext'; simp
  refine ⟨fun _ _ => trivial, ?_⟩
  rw [show Fence.wide.round = none from rfl, Oper.semAt_none, hr, Oper.uponIn_round]
  refine ⟨fun h => by simp [Fence.wide] at h, hround.mono ?_⟩
  rintro e W' ⟨p', G', ρ', s', rfl, h1, h2, h3, h4, h5, h6⟩
  have hrel := Wd.cooled p.rel h2 h3 h5
  have hm : Marks n0 W' G' a.defers := p.df.keepY (hk.rcd _ _ _ _ ho) h4
  show AfterY n0 gl nt O K (a.put o.dst (.bool p'.isNone)) W'
  rw [hdst]
  cases d with
  | none => exact ⟨p.sz, G', ρ', _, _, p', hm, hrel, h1, h6⟩
  | some d =>
    have hdt : d < a.tmps.size := by
      unfold dstOk at hd
      rw [hdst] at hd
      exact Nat.lt_of_lt_of_le (by simpa [Nat.blt_eq] using hd) p.sz
    exact ⟨by rw [put_size]; exact p.sz, G', ρ', _, _, p', by rw [put_defers]; exact hm, hrel.set hdt (.of_A (.d _ _ (.bool _))), h1, h6⟩

/-- One operation. -/
theorem sim_opY {n : Nat} {an : Ann} {m : AMap} {i : I} {pp : Option Ex} {K : St → Option Ex → Prop} (hY : YieldOk P gl O Y lb (n - 1)) (hk : Keep O ρ0 lb) (hyi : ρ0[yi]? = some lb) (p : Pre n0 gl nt w G ρ lam a st)
    (ho : O pp w G ρ) (h : compOp P an m o = some i) (hd : dstOk nt o = true) (hs : stepY (AP P gl) gl Y yi i st pp K) : o.wpIn Fence.wide n P a w (AfterY n0 gl nt O K) Q := by
  rcases stepY_cases (gl := gl) (yi := yi) (A := AP P gl) (Y := Y) (i := i) (st := st) (pp := pp) (K := K) with ⟨j, d, f, args, rfl, hf, he⟩ | he
  · rw [he] at hs
    obtain ⟨hj, hs⟩ := hs
    obtain rfl := Nat.eq_of_beq_eq_true hj
    exact sim_yield hY hk hyi p ho h hd hf hs
  · rw [he] at hs
    exact oper_wide (Oper.wp_mono (fun a' w' h => after_Y hk ho h) (sim_step p h hd hs))

/-- It stands where it stands. -/
theorem Pre.afterY {pp : Option Ex} {K : St → Option Ex → Prop} (p : Pre n0 gl nt w G ρ lam a st) (ho : O pp w G ρ) (h : K st pp) : AfterY n0 gl nt O K a w :=
  ⟨p.sz, G, ρ, lam, st, pp, p.df, p.rel, ho, h⟩

theorem stepsY_cons {R : Type} (A : Alg R) (gl : Nat → List D) (Y : Yd R) (yi : Nat) (g : GI) (l : List GI) (st : St) (pp : Option Ex) (K : St → Option Ex → R) :
    stepsY A gl Y yi (g :: l) st pp K = stepsY A gl Y yi [g] st pp fun st pp => stepsY A gl Y yi l st pp K := by
  obtain ⟨g, i⟩ := g
  cases g with
  | none => rfl
  | some q => obtain ⟨s, want⟩ := q; simp only [stepsY]

theorem sim_opsY {n : Nat} {ops : Array Oper} {an : Ann} {K : St → Option Ex → Prop} (hY : YieldOk P gl O Y lb (n - 1)) (hk : Keep O ρ0 lb) (hyi : ρ0[yi]? = some lb) :
    ∀ {l : List Oper} {k : Nat} {m : AMap} {is : List GI} {w : World} {G : Gh} {ρ : List Nat} {lam : Nat → Option Nat} {a : Act} {st : St} {pp : Option Ex},
    (∀ j, ops[k + j]? = l[j]?) → compOps P an nt ops m l = some is → Pre n0 gl nt w G ρ lam a st → O pp w G ρ → stepsY (AP P gl) gl Y yi is st pp K →
    (∀ a' w', AfterY n0 gl nt O K a' w' → Q .normal a' w') → wpOpsIn Fence.wide n P ops Q (List.range' k l.length) a w
  | [], k, m, is, w, G, ρ, lam, a, st, pp, _, hc, p, ho, hs, hQ => by
    simp only [compOps, Option.some.injEq] at hc
    subst hc
    exact hQ _ _ (p.afterY ho hs)
  | o :: l, k, m, is, w, G, ρ, lam, a, st, pp, hl, hc, p, ho, hs, hQ => by
    simp only [compOps] at hc
    split at hc
    · rename_i i g is' h1 h2 h3
      split at hc
      · rename_i hd
        simp only [Bool.and_eq_true, decide_eq_true_eq] at hd
        simp only [Option.some.injEq] at hc
        subst hc
        rw [stepsY_cons] at hs
        rw [List.length_cons, List.range'_succ]
        have hop : ops[k]? = some o := by have := hl 0; simpa using this
        simp only [wpOpsIn, hop]
        have next : ∀ a' w', AfterY n0 gl nt O (fun st pp => stepsY (AP P gl) gl Y yi is' st pp K) a' w' → wpOpsIn Fence.wide n P ops Q (List.range' (k + 1) l.length) a' w' := by
          rintro a' w' ⟨e2, G', ρ', lam', st', p', e1, e3, e4, e5⟩
          refine sim_opsY hY hk hyi (l := l) (k := k + 1) (m := amapOf P m o) (fun j => ?_) h3 ⟨e3, e1, e2⟩ e4 e5 hQ
          have := hl (j + 1)
          rw [show k + 1 + j = k + (j + 1) by omega, this]; rfl
        have mono : ∀ {K' : St → Option Ex → Prop}, (∀ st pp, K' st pp → stepsY (AP P gl) gl Y yi is' st pp K) → o.wpIn Fence.wide n P a w (AfterY n0 gl nt O K') Q → o.wpIn Fence.wide n P a w (wpOpsIn Fence.wide n P ops Q (List.range' (k + 1) l.length)) Q :=
          fun hK h => Oper.wpIn_mono (fun a' w' h => next a' w' (by obtain ⟨e2, G', ρ', lam', st', p', e1, e3, e4, e5⟩ := h; exact ⟨e2, G', ρ', lam', st', p', e1, e3, e4, hK _ _ e5⟩)) h
        have skip : ∀ {K' : St → Option Ex → Prop}, (∀ st pp, K' st pp → stepsY (AP P gl) gl Y yi is' st pp K) → K' (st.setO i.dst (.tuple [])) pp → wpOpsIn Fence.wide n P ops Q (List.range' (k + 1) l.length) (a.put o.dst undef) w :=
          fun hK h => next _ _ (after_Y hk ho (skip_after p hd.2.symm hd.1 (hK _ _ h)))
        rcases guard_spec h2 p.rel.tm with ⟨rfl, hw⟩ | ⟨s, want, rfl, ⟨b, hb, hw⟩ | ⟨hb, hw⟩ | ⟨g1, g2⟩⟩
        · rw [hw]; simp only [if_true]
          exact mono (fun _ _ h => h) (sim_opY hY hk hyi p ho h1 hd.1 hs)
        · rw [hw]
          simp only [stepsY, hb] at hs
          cases hc : cond want b (!b) with
          | true => rw [hc] at hs; simp only [if_true]; exact mono (fun _ _ h => h) (sim_opY hY hk hyi p ho h1 hd.1 hs)
          | false => rw [hc] at hs; simp only [Bool.false_eq_true, if_false]; exact ⟨fun _ _ => trivial, skip (K' := fun st pp => stepsY (AP P gl) gl Y yi is' st pp K) (fun _ _ h => h) hs⟩
        · rw [hw]
          simp only [stepsY, hb] at hs
          simp only [Bool.false_eq_true, if_false]
          exact ⟨fun _ _ => trivial, skip (K' := fun st pp => stepsY (AP P gl) gl Y yi is' st pp K) (fun _ _ h => h) hs⟩
        · exfalso
          simp only [stepsY] at hs
          first
            | exact hs
            | (split at hs
               · rename_i b hb; exact g1 b hb
               · rename_i hb; exact g2 hb
               · exact hs)
      · simp at hc
    · simp at hc

end
end Go.Vm
end
