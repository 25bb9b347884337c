/- Bytes: the plain laws of reading events. Conditions: none. -/
import Derived.Test.YthalcnhgnadmlaaDoorC29
set_option maxRecDepth 100000
namespace Go.Proofs.YthalcnhgnadmlaaDoor
open Go Go.Vm

theorem flag_inv {s : RS} (h : (countS s 1).2.bad = false) : s.bad = false ∧ s.b = encB (decide ((countS s 1).1 = 1)) ++ (countS s 1).2.b := by
  have := countS_inv h
  refine ⟨this.1, ?_⟩
  have e : encB (decide ((countS s 1).1 = 1)) = encI (countS s 1).1 := by
    unfold encB
    by_cases h1 : (countS s 1).1 = 1
    · rw [h1]; simp
    · have h0 : (countS s 1).1 = 0 := by omega
      rw [h0]; simp
  rw [e]
  exact this.2.1
theorem flag_ok (f : Bool) (r : Bs) : countS ⟨encB f ++ r, false⟩ 1 = (if f then 1 else 0, ⟨r, false⟩) := by
  unfold encB
  cases f
  · exact countS_ok 0 1 (by omega) (by omega) (by unfold I64; omega) r
  · exact countS_ok 1 1 (by omega) (by omega) (by unfold I64; omega) r
theorem flag_dec (f : Bool) : decide ((if f then (1 : Int) else 0) = 1) = f := by cases f <;> rfl

theorem mem_len {α : Type} {f : α → Bs} : ∀ {l : List α} {x : α}, x ∈ l → (f x).length ≤ (l.flatMap f).length
  | y :: l, x, h => by
    rw [List.flatMap_cons, List.length_append]
    rcases List.mem_cons.1 h with rfl | h
    · omega
    · have := mem_len (f := f) h
      omega
theorem countS_ll {s : RS} : (countS s 1).2.b.length ≤ s.b.length := countS_len s 1

theorem partsS_pa {s : RS} (h : (partsS s).2.bad = false) : ∀ p, p ∈ (partsS s).1 → p.a.length ≤ s.b.length := by
  intro p hp
  have h1 := partsS_inv h
  have h2 := congrArg List.length h1.2.1
  have h3 := mem_len (f := encPt) hp
  unfold encPs encPt encTx at h2
  unfold encPt encTx at h3
  simp only [List.length_append] at h2 h3
  omega

theorem rightB_of (e : Ev) (h1 : 1 ≤ e.k) (h2 : e.k ≤ 13) (ho : e = e.only) (hc : e.k = 2 ∨ e.k = 8 → chk e.t = 0) : e.rightB = true := by
  unfold Ev.rightB
  have h3 : ((!decide (e.k = 2) && !decide (e.k = 8)) || decide (chk e.t = 0)) = true := by
    by_cases h : e.k = 2 ∨ e.k = 8
    · simp [hc h]
    · simp only [not_or] at h
      simp [h.1, h.2]
  have h4 : decide (e = e.only) = true := decide_eq_true ho
  rw [decide_eq_true h1, decide_eq_true h2, h4, h3]
  rfl
theorem rightB_inv {e : Ev} (h : e.rightB = true) : 1 ≤ e.k ∧ e.k ≤ 13 ∧ e = e.only ∧ (e.k = 2 ∨ e.k = 8 → chk e.t = 0) := by
  unfold Ev.rightB at h
  rw [Bool.and_eq_true, Bool.and_eq_true, Bool.and_eq_true] at h
  refine ⟨of_decide_eq_true h.1, of_decide_eq_true h.2.1, of_decide_eq_true h.2.2.1, fun hk => ?_⟩
  have := h.2.2.2
  rcases hk with hk | hk <;> (rw [hk] at this; simpa using this)

theorem i64z : I64 0 := by unfold I64; omega
theorem smz : ([] : Bs).length < SM := by show 0 < 4294967296; omega
/-- What a kind's reader tells. -/
def RdOk (k : Int) (rk : RS → Ev × RS) : Prop := ∀ s : RS, (rk s).2.bad = false → (rk s).2.b = [] → s.b.length < SM →
  s.bad = false ∧ encI k ++ s.b = encEv (rk s).1 ∧ (rk s).1.k = k ∧ (rk s).1 = (rk s).1.only ∧ (k = 2 ∨ k = 8 → chk (rk s).1.t = 0) ∧ EvOk (rk s).1 ∧ EvR (rk s).1

theorem rk1_inv : RdOk 1 rk1 := by
  intro s h he hs
  have hs : s.b.length < 4294967296 := hs
  have h : (textS s).2.bad = false := h
  have he : (textS s).2.b = [] := he
  have b0 := textS_inv (s := s) h
  refine ⟨b0.1, ?_, rfl, rfl, by omega, ⟨by show (textS s).1.length < 4294967296; have := textS_le s; omega, smz, smz, by intro p hp; exact absurd hp (by simp [rk1, zE]), smz, by intro p hp; exact absurd hp (by simp [rk1, zE]), smz, by intro p hp; exact absurd hp (by simp [rk1, zE]), by intro p hp; exact absurd hp (by simp [rk1, zE])⟩, ⟨(by unfold I64; show (-9223372036854775808 : Int) ≤ 1 ∧ (1 : Int) < 9223372036854775808; omega), i64z, i64z, i64z, i64z, by intro p hp; exact absurd hp (by simp [rk1, zE]), by intro p hp; exact absurd hp (by simp [rk1, zE]), by intro p hp; exact absurd hp (by simp [rk1, zE])⟩⟩
  show encI 1 ++ s.b = encI 1 ++ (encTx (textS s).1)
  rw [b0.2.1, he]
  simp only [List.append_assoc, List.append_nil]

theorem rk2_inv : RdOk 2 rk2 := by
  intro s h he hs
  have hs : s.b.length < 4294967296 := hs
  have h : (tabS (partS s).2).2.bad = false := h
  have he : (tabS (partS s).2).2.b = [] := he
  have b1 := tabS_inv (s := (partS s).2) h
  have b0 := partS_inv (s := s) b1.1
  have l0 := partS_le s
  refine ⟨b0.1, ?_, rfl, rfl, fun _ => b1.2.2.1, ⟨smz, by show (partS s).1.a.length < 4294967296; have := col_len s; have h9 : (partS s).1.a = (textS s).1 := rfl; rw [h9]; omega, smz, by intro p hp; exact absurd hp (by simp [rk2, zE]), by show (tabS (partS s).2).1.s.length < 4294967296; have := b1.2.2.2.1; omega, fun c hc => by show c.name.length < 4294967296; have := (b1.2.2.2.2.2.1 c hc).2; omega, by show (tabS (partS s).2).1.r.length < 4294967296; have := b1.2.2.2.2.1; omega, fun q hq => by show q.length < 4294967296; have := (b1.2.2.2.2.2.2 q hq).1; omega, fun q hq v hv => by show v.t.length < 4294967296; have := ((b1.2.2.2.2.2.2 q hq).2 v hv).2.2; omega⟩, ⟨(by unfold I64; show (-9223372036854775808 : Int) ≤ 2 ∧ (2 : Int) < 9223372036854775808; omega), i64z, i64z, b0.2.2, i64z, by intro p hp; exact absurd hp (by simp [rk2, zE]), fun c hc => (b1.2.2.2.2.2.1 c hc).1, fun q hq v hv => ⟨((b1.2.2.2.2.2.2 q hq).2 v hv).1, ((b1.2.2.2.2.2.2 q hq).2 v hv).2.1⟩⟩⟩
  show encI 2 ++ s.b = encI 2 ++ (encPt ⟨(partS s).1.a, (partS s).1.i⟩ ++ encTb (tabS (partS s).2).1.s (tabS (partS s).2).1.r)
  rw [b0.2.1, b1.2.1, he]
  simp only [List.append_assoc, List.append_nil]

theorem rk3_inv : RdOk 3 rk3 := by
  intro s h he hs
  have hs : s.b.length < 4294967296 := hs
  have h : (intS s).2.bad = false := h
  have he : (intS s).2.b = [] := he
  have b0 := intS_inv (s := s) h
  refine ⟨b0.1, ?_, rfl, rfl, by omega, ⟨smz, smz, smz, by intro p hp; exact absurd hp (by simp [rk3, zE]), smz, by intro p hp; exact absurd hp (by simp [rk3, zE]), smz, by intro p hp; exact absurd hp (by simp [rk3, zE]), by intro p hp; exact absurd hp (by simp [rk3, zE])⟩, ⟨(by unfold I64; show (-9223372036854775808 : Int) ≤ 3 ∧ (3 : Int) < 9223372036854775808; omega), i64z, b0.2.2, i64z, i64z, by intro p hp; exact absurd hp (by simp [rk3, zE]), by intro p hp; exact absurd hp (by simp [rk3, zE]), by intro p hp; exact absurd hp (by simp [rk3, zE])⟩⟩
  show encI 3 ++ s.b = encI 3 ++ (encI (intS s).1)
  rw [b0.2.1, he]
  simp only [List.append_assoc, List.append_nil]

theorem rk4_inv : RdOk 4 rk4 := by
  intro s h he hs
  have hs : s.b.length < 4294967296 := hs
  have h : (countS (partsS (intS (textS s).2).2).2 1).2.bad = false := h
  have he : (countS (partsS (intS (textS s).2).2).2 1).2.b = [] := he
  have b3 := flag_inv (s := (partsS (intS (textS s).2).2).2) h
  have b2 := partsS_inv (s := (intS (textS s).2).2) b3.1
  have b1 := intS_inv (s := (textS s).2) b2.1
  have b0 := textS_inv (s := s) b1.1
  have l0 := textS_le s
  have l1 := intS_le (textS s).2
  have l2 : (partsS (intS (textS s).2).2).2.b.length ≤ (intS (textS s).2).2.b.length := by have := congrArg List.length b2.2.1; rw [List.length_append] at this; omega
  refine ⟨b0.1, ?_, rfl, rfl, by omega, ⟨by show (textS s).1.length < 4294967296; have := textS_le s; omega, smz, by show (partsS (intS (textS s).2).2).1.length < 4294967296; have := b2.2.2.1; omega, fun p hp => by show p.a.length < 4294967296; have := partsS_pa (s := (intS (textS s).2).2) b3.1 p hp; omega, smz, by intro p hp; exact absurd hp (by simp [rk4, zE]), smz, by intro p hp; exact absurd hp (by simp [rk4, zE]), by intro p hp; exact absurd hp (by simp [rk4, zE])⟩, ⟨(by unfold I64; show (-9223372036854775808 : Int) ≤ 4 ∧ (4 : Int) < 9223372036854775808; omega), i64z, b1.2.2, i64z, i64z, b2.2.2.2, by intro p hp; exact absurd hp (by simp [rk4, zE]), by intro p hp; exact absurd hp (by simp [rk4, zE])⟩⟩
  show encI 4 ++ s.b = encI 4 ++ (encTx (textS s).1 ++ encI (intS (textS s).2).1 ++ encPs (partsS (intS (textS s).2).2).1 ++ encB (decide ((countS (partsS (intS (textS s).2).2).2 1).1 = 1)))
  rw [b0.2.1, b1.2.1, b2.2.1, b3.2, he]
  simp only [List.append_assoc, List.append_nil]

theorem rk5_inv : RdOk 5 rk5 := by
  intro s h he hs
  have hs : s.b.length < 4294967296 := hs
  have h : (countS (partsS s).2 1).2.bad = false := h
  have he : (countS (partsS s).2 1).2.b = [] := he
  have b1 := flag_inv (s := (partsS s).2) h
  have b0 := partsS_inv (s := s) b1.1
  have l0 : (partsS s).2.b.length ≤ s.b.length := by have := congrArg List.length b0.2.1; rw [List.length_append] at this; omega
  refine ⟨b0.1, ?_, rfl, rfl, by omega, ⟨smz, smz, by show (partsS s).1.length < 4294967296; have := b0.2.2.1; omega, fun p hp => by show p.a.length < 4294967296; have := partsS_pa (s := s) b1.1 p hp; omega, smz, by intro p hp; exact absurd hp (by simp [rk5, zE]), smz, by intro p hp; exact absurd hp (by simp [rk5, zE]), by intro p hp; exact absurd hp (by simp [rk5, zE])⟩, ⟨(by unfold I64; show (-9223372036854775808 : Int) ≤ 5 ∧ (5 : Int) < 9223372036854775808; omega), i64z, i64z, i64z, i64z, b0.2.2.2, by intro p hp; exact absurd hp (by simp [rk5, zE]), by intro p hp; exact absurd hp (by simp [rk5, zE])⟩⟩
  show encI 5 ++ s.b = encI 5 ++ (encPs (partsS s).1 ++ encB (decide ((countS (partsS s).2 1).1 = 1)))
  rw [b0.2.1, b1.2, he]
  simp only [List.append_assoc, List.append_nil]

theorem rk6_inv : RdOk 6 rk6 := by
  intro s h he hs
  have hs : s.b.length < 4294967296 := hs
  have h : (intS s).2.bad = false := h
  have he : (intS s).2.b = [] := he
  have b0 := intS_inv (s := s) h
  refine ⟨b0.1, ?_, rfl, rfl, by omega, ⟨smz, smz, smz, by intro p hp; exact absurd hp (by simp [rk6, zE]), smz, by intro p hp; exact absurd hp (by simp [rk6, zE]), smz, by intro p hp; exact absurd hp (by simp [rk6, zE]), by intro p hp; exact absurd hp (by simp [rk6, zE])⟩, ⟨(by unfold I64; show (-9223372036854775808 : Int) ≤ 6 ∧ (6 : Int) < 9223372036854775808; omega), b0.2.2, i64z, i64z, i64z, by intro p hp; exact absurd hp (by simp [rk6, zE]), by intro p hp; exact absurd hp (by simp [rk6, zE]), by intro p hp; exact absurd hp (by simp [rk6, zE])⟩⟩
  show encI 6 ++ s.b = encI 6 ++ (encI (intS s).1)
  rw [b0.2.1, he]
  simp only [List.append_assoc, List.append_nil]

theorem rk7_inv : RdOk 7 rk7 := by
  intro s h he hs
  have hs : s.b.length < 4294967296 := hs
  have h : (partS s).2.bad = false := h
  have he : (partS s).2.b = [] := he
  have b0 := partS_inv (s := s) h
  refine ⟨b0.1, ?_, rfl, rfl, by omega, ⟨smz, by show (partS s).1.a.length < 4294967296; have := col_len s; have h9 : (partS s).1.a = (textS s).1 := rfl; rw [h9]; omega, smz, by intro p hp; exact absurd hp (by simp [rk7, zE]), smz, by intro p hp; exact absurd hp (by simp [rk7, zE]), smz, by intro p hp; exact absurd hp (by simp [rk7, zE]), by intro p hp; exact absurd hp (by simp [rk7, zE])⟩, ⟨(by unfold I64; show (-9223372036854775808 : Int) ≤ 7 ∧ (7 : Int) < 9223372036854775808; omega), i64z, i64z, b0.2.2, i64z, by intro p hp; exact absurd hp (by simp [rk7, zE]), by intro p hp; exact absurd hp (by simp [rk7, zE]), by intro p hp; exact absurd hp (by simp [rk7, zE])⟩⟩
  show encI 7 ++ s.b = encI 7 ++ (encPt ⟨(partS s).1.a, (partS s).1.i⟩)
  rw [b0.2.1, he]
  simp only [List.append_assoc, List.append_nil]

theorem rk8_inv : RdOk 8 rk8 := by
  intro s h he hs
  have hs : s.b.length < 4294967296 := hs
  have h : (tabS (intS s).2).2.bad = false := h
  have he : (tabS (intS s).2).2.b = [] := he
  have b1 := tabS_inv (s := (intS s).2) h
  have b0 := intS_inv (s := s) b1.1
  have l0 := intS_le s
  refine ⟨b0.1, ?_, rfl, rfl, fun _ => b1.2.2.1, ⟨smz, smz, smz, by intro p hp; exact absurd hp (by simp [rk8, zE]), by show (tabS (intS s).2).1.s.length < 4294967296; have := b1.2.2.2.1; omega, fun c hc => by show c.name.length < 4294967296; have := (b1.2.2.2.2.2.1 c hc).2; omega, by show (tabS (intS s).2).1.r.length < 4294967296; have := b1.2.2.2.2.1; omega, fun q hq => by show q.length < 4294967296; have := (b1.2.2.2.2.2.2 q hq).1; omega, fun q hq v hv => by show v.t.length < 4294967296; have := ((b1.2.2.2.2.2.2 q hq).2 v hv).2.2; omega⟩, ⟨(by unfold I64; show (-9223372036854775808 : Int) ≤ 8 ∧ (8 : Int) < 9223372036854775808; omega), b0.2.2, i64z, i64z, i64z, by intro p hp; exact absurd hp (by simp [rk8, zE]), fun c hc => (b1.2.2.2.2.2.1 c hc).1, fun q hq v hv => ⟨((b1.2.2.2.2.2.2 q hq).2 v hv).1, ((b1.2.2.2.2.2.2 q hq).2 v hv).2.1⟩⟩⟩
  show encI 8 ++ s.b = encI 8 ++ (encI (intS s).1 ++ encTb (tabS (intS s).2).1.s (tabS (intS s).2).1.r)
  rw [b0.2.1, b1.2.1, he]
  simp only [List.append_assoc, List.append_nil]

theorem rk9_inv : RdOk 9 rk9 := by
  intro s h he hs
  have hs : s.b.length < 4294967296 := hs
  have h : (countS (intS (intS (intS s).2).2).2 1).2.bad = false := h
  have he : (countS (intS (intS (intS s).2).2).2 1).2.b = [] := he
  have b3 := flag_inv (s := (intS (intS (intS s).2).2).2) h
  have b2 := intS_inv (s := (intS (intS s).2).2) b3.1
  have b1 := intS_inv (s := (intS s).2) b2.1
  have b0 := intS_inv (s := s) b1.1
  have l0 := intS_le s
  have l1 := intS_le (intS s).2
  have l2 := intS_le (intS (intS s).2).2
  refine ⟨b0.1, ?_, rfl, rfl, by omega, ⟨smz, smz, smz, by intro p hp; exact absurd hp (by simp [rk9, zE]), smz, by intro p hp; exact absurd hp (by simp [rk9, zE]), smz, by intro p hp; exact absurd hp (by simp [rk9, zE]), by intro p hp; exact absurd hp (by simp [rk9, zE])⟩, ⟨(by unfold I64; show (-9223372036854775808 : Int) ≤ 9 ∧ (9 : Int) < 9223372036854775808; omega), b0.2.2, b1.2.2, i64z, b2.2.2, by intro p hp; exact absurd hp (by simp [rk9, zE]), by intro p hp; exact absurd hp (by simp [rk9, zE]), by intro p hp; exact absurd hp (by simp [rk9, zE])⟩⟩
  show encI 9 ++ s.b = encI 9 ++ (encI (intS s).1 ++ encI (intS (intS s).2).1 ++ encI (intS (intS (intS s).2).2).1 ++ encB (decide ((countS (intS (intS (intS s).2).2).2 1).1 = 1)))
  rw [b0.2.1, b1.2.1, b2.2.1, b3.2, he]
  simp only [List.append_assoc, List.append_nil]

theorem rk10_inv : RdOk 10 rk10 := by
  intro s h he hs
  have hs : s.b.length < 4294967296 := hs
  have h : (intS s).2.bad = false := h
  have he : (intS s).2.b = [] := he
  have b0 := intS_inv (s := s) h
  refine ⟨b0.1, ?_, rfl, rfl, by omega, ⟨smz, smz, smz, by intro p hp; exact absurd hp (by simp [rk10, zE]), smz, by intro p hp; exact absurd hp (by simp [rk10, zE]), smz, by intro p hp; exact absurd hp (by simp [rk10, zE]), by intro p hp; exact absurd hp (by simp [rk10, zE])⟩, ⟨(by unfold I64; show (-9223372036854775808 : Int) ≤ 10 ∧ (10 : Int) < 9223372036854775808; omega), b0.2.2, i64z, i64z, i64z, by intro p hp; exact absurd hp (by simp [rk10, zE]), by intro p hp; exact absurd hp (by simp [rk10, zE]), by intro p hp; exact absurd hp (by simp [rk10, zE])⟩⟩
  show encI 10 ++ s.b = encI 10 ++ (encI (intS s).1)
  rw [b0.2.1, he]
  simp only [List.append_assoc, List.append_nil]

theorem rk11_inv : RdOk 11 rk11 := by
  intro s h he hs
  have hs : s.b.length < 4294967296 := hs
  have h : (countS s 1).2.bad = false := h
  have he : (countS s 1).2.b = [] := he
  have b0 := flag_inv (s := s) h
  refine ⟨b0.1, ?_, rfl, rfl, by omega, ⟨smz, smz, smz, by intro p hp; exact absurd hp (by simp [rk11, zE]), smz, by intro p hp; exact absurd hp (by simp [rk11, zE]), smz, by intro p hp; exact absurd hp (by simp [rk11, zE]), by intro p hp; exact absurd hp (by simp [rk11, zE])⟩, ⟨(by unfold I64; show (-9223372036854775808 : Int) ≤ 11 ∧ (11 : Int) < 9223372036854775808; omega), i64z, i64z, i64z, i64z, by intro p hp; exact absurd hp (by simp [rk11, zE]), by intro p hp; exact absurd hp (by simp [rk11, zE]), by intro p hp; exact absurd hp (by simp [rk11, zE])⟩⟩
  show encI 11 ++ s.b = encI 11 ++ (encB (decide ((countS s 1).1 = 1)))
  rw [b0.2, he]
  simp only [List.append_assoc, List.append_nil]

theorem rk12_inv : RdOk 12 rk12 := by
  intro s h he hs
  have hs : s.b.length < 4294967296 := hs
  have h : s.bad = false := h
  have he : s.b = [] := he
  refine ⟨h, ?_, rfl, rfl, by omega, ⟨smz, smz, smz, by intro p hp; exact absurd hp (by simp [rk12, zE]), smz, by intro p hp; exact absurd hp (by simp [rk12, zE]), smz, by intro p hp; exact absurd hp (by simp [rk12, zE]), by intro p hp; exact absurd hp (by simp [rk12, zE])⟩, ⟨(by unfold I64; show (-9223372036854775808 : Int) ≤ 12 ∧ (12 : Int) < 9223372036854775808; omega), i64z, i64z, i64z, i64z, by intro p hp; exact absurd hp (by simp [rk12, zE]), by intro p hp; exact absurd hp (by simp [rk12, zE]), by intro p hp; exact absurd hp (by simp [rk12, zE])⟩⟩
  show encI 12 ++ s.b = encI 12 ++ ([])
  rw [he]

theorem rk13_inv : RdOk 13 rk13 := by
  intro s h he hs
  have hs : s.b.length < 4294967296 := hs
  have h : s.bad = false := h
  have he : s.b = [] := he
  refine ⟨h, ?_, rfl, rfl, by omega, ⟨smz, smz, smz, by intro p hp; exact absurd hp (by simp [rk13, zE]), smz, by intro p hp; exact absurd hp (by simp [rk13, zE]), smz, by intro p hp; exact absurd hp (by simp [rk13, zE]), by intro p hp; exact absurd hp (by simp [rk13, zE])⟩, ⟨(by unfold I64; show (-9223372036854775808 : Int) ≤ 13 ∧ (13 : Int) < 9223372036854775808; omega), i64z, i64z, i64z, i64z, by intro p hp; exact absurd hp (by simp [rk13, zE]), by intro p hp; exact absurd hp (by simp [rk13, zE]), by intro p hp; exact absurd hp (by simp [rk13, zE])⟩⟩
  show encI 13 ++ s.b = encI 13 ++ ([])
  rw [he]

theorem readK_inv (k : Int) (hk : 1 ≤ k ∧ k ≤ 13) : RdOk k (readK k) := by
  rcases kinds_or k with h | h
  · rcases h with rfl | rfl | rfl | rfl | rfl | rfl | rfl | rfl | rfl | rfl | rfl | rfl | rfl
    · exact rk1_inv
    · exact rk2_inv
    · exact rk3_inv
    · exact rk4_inv
    · exact rk5_inv
    · exact rk6_inv
    · exact rk7_inv
    · exact rk8_inv
    · exact rk9_inv
    · exact rk10_inv
    · exact rk11_inv
    · exact rk12_inv
    · exact rk13_inv
  · omega

theorem doneB_inv {q : RS} (h : doneB q = true) : q.bad = false ∧ q.b = [] := by
  unfold doneB at h
  rw [Bool.and_eq_true] at h
  refine ⟨by simpa using h.1, ?_⟩
  have := of_decide_eq_true h.2
  rw [List.length_map] at this
  exact List.length_eq_zero_iff.1 (by omega)

theorem readS_or (b : Bs) (hb : b.length < SM) : readS b = (zE 0, 20) ∨ ((readS b).2 = 0 ∧ b = encEv (readS b).1 ∧ (readS b).1.rightB = true ∧ EvOk (readS b).1 ∧ EvR (readS b).1) := by
  unfold readS
  cases hd : doneB (readK (intS ⟨b, false⟩).1 (intS ⟨b, false⟩).2).2 with
  | false => exact Or.inl rfl
  | true =>
    refine Or.inr ⟨rfl, ?_⟩
    show b = encEv (readK (intS ⟨b, false⟩).1 (intS ⟨b, false⟩).2).1 ∧ (readK (intS ⟨b, false⟩).1 (intS ⟨b, false⟩).2).1.rightB = true ∧ EvOk (readK (intS ⟨b, false⟩).1 (intS ⟨b, false⟩).2).1 ∧ EvR (readK (intS ⟨b, false⟩).1 (intS ⟨b, false⟩).2).1
    have h1 := doneB_inv hd
    have hl := intS_le ⟨b, false⟩
    have hl : (intS ⟨b, false⟩).2.b.length ≤ b.length := hl
    by_cases hk : 1 ≤ (intS ⟨b, false⟩).1 ∧ (intS ⟨b, false⟩).1 ≤ 13
    · obtain ⟨g1, g2, g3, g4, g5, g6, g7⟩ := readK_inv _ hk _ h1.1 h1.2 (Nat.lt_of_le_of_lt hl hb)
      have hi := intS_inv g1
      refine ⟨?_, rightB_of _ (by rw [g3]; exact hk.1) (by rw [g3]; exact hk.2) g4 (by rw [g3]; exact g5), g6, g7⟩
      rw [← g2]
      exact hi.2.1
    · exfalso
      have hr : readK (intS ⟨b, false⟩).1 (intS ⟨b, false⟩).2 = (zE 0, ⟨(intS ⟨b, false⟩).2.b, true⟩) := by
        unfold readK
        repeat rw [if_neg (by omega)]
      rw [hr] at h1
      exact absurd h1.1 (by simp)

theorem readS_ok (e : Ev) (ho : EvOk e) (hr : EvR e) (hR : e.rightB = true) (hps : e.ps.length ≤ 16384) (hs : e.s.length ≤ 16) (hrr : e.r.length ≤ 4096) : readS (encEv e) = (e, 0) := by
  have hB : BND = 70368744177664 := rfl
  have hS : SM = 4294967296 := rfl
  have htx : e.text.length < BND := by have := ho.text; omega
  have hpa : e.pa.length < BND := by have := ho.pa; omega
  have hpp : ∀ p, p ∈ e.ps → PtOk p := fun p hp => ⟨by have := ho.pas p hp; omega, hr.ps p hp⟩
  have hsn : ∀ c, c ∈ e.t.s → c.name.length < BND ∧ I64 c.ty := fun c hc => ⟨by have := ho.ss c hc; omega, hr.s c hc⟩
  have hv : ∀ q, q ∈ e.t.r → ∀ v, v ∈ q → I64 v.n ∧ v.t.length < BND := fun q hq v hv => ⟨(hr.r q hq v hv).2, by have := ho.rt q hq v hv; omega⟩
  obtain ⟨h1, h2, h3, hc⟩ := rightB_inv hR
  have hf : (e.k = 2 ∨ e.k = 8) → ∀ q, q ∈ e.t.r → FitP e.t.s q := fun h => (chk_ok ho.tb).1 (hc h)
  have hkk : e.k = 1 ∨ e.k = 2 ∨ e.k = 3 ∨ e.k = 4 ∨ e.k = 5 ∨ e.k = 6 ∨ e.k = 7 ∨ e.k = 8 ∨ e.k = 9 ∨ e.k = 10 ∨ e.k = 11 ∨ e.k = 12 ∨ e.k = 13 := by omega
  have key : ∀ (k : Int) (body : Bs), e.k = k → I64 k → encEv e = encI k ++ body → readK k ⟨body, false⟩ = (e.only, ⟨[], false⟩) → readS (encEv e) = (e, 0) := by
    intro k body _ hi he hk
    unfold readS
    rw [he, intS_ok k hi]
    show cond (doneB (readK k ⟨body, false⟩).2) ((readK k ⟨body, false⟩).1, (0 : Int)) (zE 0, 20) = (e, 0)
    rw [hk, ← h3]
    rfl
  rcases hkk with hk | hk | hk | hk | hk | hk | hk | hk | hk | hk | hk | hk | hk
  · have he : encEv e = encI 1 ++ (encTx e.text) := by unfold encEv; simp [hk]
    have hon : e.only = { zE 1 with text := e.text } := by unfold Ev.only; simp [hk]
    refine key 1 _ hk (by unfold I64; omega) he ?_
    rw [hon]
    have hb : encTx e.text = encTx e.text ++ ([]) := by simp only [List.append_assoc, List.append_nil]
    rw [hb]
    show rk1 _ = _
    unfold rk1
    rw [textS_ok e.text htx]

  · have he : encEv e = encI 2 ++ (encPt ⟨e.pa, e.pi⟩ ++ encTb e.s e.r) := by unfold encEv; simp [hk]
    have hon : e.only = { zE 2 with pa := e.pa, pi := e.pi, s := e.s, r := e.r } := by unfold Ev.only; simp [hk]
    refine key 2 _ hk (by unfold I64; omega) he ?_
    rw [hon]
    have hb : encPt ⟨e.pa, e.pi⟩ ++ encTb e.s e.r = encPt ⟨e.pa, e.pi⟩ ++ (encTb e.s e.r ++ ([])) := by simp only [List.append_assoc, List.append_nil]
    rw [hb]
    show rk2 _ = _
    unfold rk2
    rw [partS_ok ⟨e.pa, e.pi⟩ hpa hr.pi, show encTb e.s e.r = encTb e.t.s e.t.r from rfl, tabS_ok e.t hs hrr (hc (by omega)) hsn (hf (by omega)) hv]
    rfl

  · have he : encEv e = encI 3 ++ (encI e.n) := by unfold encEv; simp [hk]
    have hon : e.only = { zE 3 with n := e.n } := by unfold Ev.only; simp [hk]
    refine key 3 _ hk (by unfold I64; omega) he ?_
    rw [hon]
    have hb : encI e.n = encI e.n ++ ([]) := by simp only [List.append_assoc, List.append_nil]
    rw [hb]
    show rk3 _ = _
    unfold rk3
    rw [intS_ok e.n hr.n]

  · have he : encEv e = encI 4 ++ (encTx e.text ++ encI e.n ++ encPs e.ps ++ encB e.flag) := by unfold encEv; simp [hk]
    have hon : e.only = { zE 4 with text := e.text, n := e.n, ps := e.ps, flag := e.flag } := by unfold Ev.only; simp [hk]
    refine key 4 _ hk (by unfold I64; omega) he ?_
    rw [hon]
    have hb : encTx e.text ++ encI e.n ++ encPs e.ps ++ encB e.flag = encTx e.text ++ (encI e.n ++ (encPs e.ps ++ (encB e.flag ++ ([])))) := by simp only [List.append_assoc, List.append_nil]
    rw [hb]
    show rk4 _ = _
    unfold rk4
    rw [textS_ok e.text htx, intS_ok e.n hr.n, partsS_ok e.ps hps hpp, flag_ok e.flag]
    dsimp only
    rw [flag_dec]

  · have he : encEv e = encI 5 ++ (encPs e.ps ++ encB e.flag) := by unfold encEv; simp [hk]
    have hon : e.only = { zE 5 with ps := e.ps, flag := e.flag } := by unfold Ev.only; simp [hk]
    refine key 5 _ hk (by unfold I64; omega) he ?_
    rw [hon]
    have hb : encPs e.ps ++ encB e.flag = encPs e.ps ++ (encB e.flag ++ ([])) := by simp only [List.append_assoc, List.append_nil]
    rw [hb]
    show rk5 _ = _
    unfold rk5
    rw [partsS_ok e.ps hps hpp, flag_ok e.flag]
    dsimp only
    rw [flag_dec]

  · have he : encEv e = encI 6 ++ (encI e.id) := by unfold encEv; simp [hk]
    have hon : e.only = { zE 6 with id := e.id } := by unfold Ev.only; simp [hk]
    refine key 6 _ hk (by unfold I64; omega) he ?_
    rw [hon]
    have hb : encI e.id = encI e.id ++ ([]) := by simp only [List.append_assoc, List.append_nil]
    rw [hb]
    show rk6 _ = _
    unfold rk6
    rw [intS_ok e.id hr.id]

  · have he : encEv e = encI 7 ++ (encPt ⟨e.pa, e.pi⟩) := by unfold encEv; simp [hk]
    have hon : e.only = { zE 7 with pa := e.pa, pi := e.pi } := by unfold Ev.only; simp [hk]
    refine key 7 _ hk (by unfold I64; omega) he ?_
    rw [hon]
    have hb : encPt ⟨e.pa, e.pi⟩ = encPt ⟨e.pa, e.pi⟩ ++ ([]) := by simp only [List.append_assoc, List.append_nil]
    rw [hb]
    show rk7 _ = _
    unfold rk7
    rw [partS_ok ⟨e.pa, e.pi⟩ hpa hr.pi]

  · have he : encEv e = encI 8 ++ (encI e.id ++ encTb e.s e.r) := by unfold encEv; simp [hk]
    have hon : e.only = { zE 8 with id := e.id, s := e.s, r := e.r } := by unfold Ev.only; simp [hk]
    refine key 8 _ hk (by unfold I64; omega) he ?_
    rw [hon]
    have hb : encI e.id ++ encTb e.s e.r = encI e.id ++ (encTb e.s e.r ++ ([])) := by simp only [List.append_assoc, List.append_nil]
    rw [hb]
    show rk8 _ = _
    unfold rk8
    rw [intS_ok e.id hr.id, show encTb e.s e.r = encTb e.t.s e.t.r from rfl, tabS_ok e.t hs hrr (hc (by omega)) hsn (hf (by omega)) hv]
    rfl

  · have he : encEv e = encI 9 ++ (encI e.id ++ encI e.n ++ encI e.err ++ encB e.flag) := by unfold encEv; simp [hk]
    have hon : e.only = { zE 9 with id := e.id, n := e.n, err := e.err, flag := e.flag } := by unfold Ev.only; simp [hk]
    refine key 9 _ hk (by unfold I64; omega) he ?_
    rw [hon]
    have hb : encI e.id ++ encI e.n ++ encI e.err ++ encB e.flag = encI e.id ++ (encI e.n ++ (encI e.err ++ (encB e.flag ++ ([])))) := by simp only [List.append_assoc, List.append_nil]
    rw [hb]
    show rk9 _ = _
    unfold rk9
    rw [intS_ok e.id hr.id, intS_ok e.n hr.n, intS_ok e.err hr.err, flag_ok e.flag]
    dsimp only
    rw [flag_dec]

  · have he : encEv e = encI 10 ++ (encI e.id) := by unfold encEv; simp [hk]
    have hon : e.only = { zE 10 with id := e.id } := by unfold Ev.only; simp [hk]
    refine key 10 _ hk (by unfold I64; omega) he ?_
    rw [hon]
    have hb : encI e.id = encI e.id ++ ([]) := by simp only [List.append_assoc, List.append_nil]
    rw [hb]
    show rk10 _ = _
    unfold rk10
    rw [intS_ok e.id hr.id]

  · have he : encEv e = encI 11 ++ (encB e.flag) := by unfold encEv; simp [hk]
    have hon : e.only = { zE 11 with flag := e.flag } := by unfold Ev.only; simp [hk]
    refine key 11 _ hk (by unfold I64; omega) he ?_
    rw [hon]
    have hb : encB e.flag = encB e.flag ++ ([]) := by simp only [List.append_assoc, List.append_nil]
    rw [hb]
    show rk11 _ = _
    unfold rk11
    rw [flag_ok e.flag]
    dsimp only
    rw [flag_dec]

  · have he : encEv e = encI 12 ++ ([]) := by unfold encEv; simp [hk]
    have hon : e.only = zE 12 := by unfold Ev.only; simp [hk]
    refine key 12 _ hk (by unfold I64; omega) he ?_
    rw [hon]
    show rk12 _ = _
    unfold rk12
    rfl

  · have he : encEv e = encI 13 ++ ([]) := by unfold encEv; simp [hk]
    have hon : e.only = zE 13 := by unfold Ev.only; simp [hk]
    refine key 13 _ hk (by unfold I64; omega) he ?_
    rw [hon]
    show rk13 _ = _
    unfold rk13
    rfl

end Go.Proofs.YthalcnhgnadmlaaDoor
