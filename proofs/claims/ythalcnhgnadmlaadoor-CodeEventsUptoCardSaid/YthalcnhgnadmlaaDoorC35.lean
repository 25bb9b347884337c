/- Any event is read as it was written. Conditions: none. -/
import Derived.Test.YthalcnhgnadmlaaDoorC34
import Derived.Test.YthalcnhgnadmlaaDoorC12
set_option maxRecDepth 100000
namespace Go.Proofs.YthalcnhgnadmlaaDoor
open Go Go.Vm

theorem ite_ok {c : Prop} [Decidable c] {a b : Ev} (ha : EvOk a) (hb : EvOk b) : EvOk (if c then a else b) := by
  by_cases h : c
  · rw [if_pos h]; exact ha
  · rw [if_neg h]; exact hb
theorem only_ok {e : Ev} (h : EvOk e) : EvOk e.only := by
  have z := zE_ok
  unfold Ev.only
  refine ite_ok ⟨h.text, (z 1).pa, (z 1).ps, (z 1).pas, (z 1).s, (z 1).ss, (z 1).r, (z 1).rr, (z 1).rt⟩ ?_
  refine ite_ok ⟨(z 2).text, h.pa, (z 2).ps, (z 2).pas, h.s, h.ss, h.r, h.rr, h.rt⟩ ?_
  refine ite_ok ⟨(z 3).text, (z 3).pa, (z 3).ps, (z 3).pas, (z 3).s, (z 3).ss, (z 3).r, (z 3).rr, (z 3).rt⟩ ?_
  refine ite_ok ⟨h.text, (z 4).pa, h.ps, h.pas, (z 4).s, (z 4).ss, (z 4).r, (z 4).rr, (z 4).rt⟩ ?_
  refine ite_ok ⟨(z 5).text, (z 5).pa, h.ps, h.pas, (z 5).s, (z 5).ss, (z 5).r, (z 5).rr, (z 5).rt⟩ ?_
  refine ite_ok ⟨(z 6).text, (z 6).pa, (z 6).ps, (z 6).pas, (z 6).s, (z 6).ss, (z 6).r, (z 6).rr, (z 6).rt⟩ ?_
  refine ite_ok ⟨(z 7).text, h.pa, (z 7).ps, (z 7).pas, (z 7).s, (z 7).ss, (z 7).r, (z 7).rr, (z 7).rt⟩ ?_
  refine ite_ok ⟨(z 8).text, (z 8).pa, (z 8).ps, (z 8).pas, h.s, h.ss, h.r, h.rr, h.rt⟩ ?_
  refine ite_ok ⟨(z 9).text, (z 9).pa, (z 9).ps, (z 9).pas, (z 9).s, (z 9).ss, (z 9).r, (z 9).rr, (z 9).rt⟩ ?_
  refine ite_ok ⟨(z 10).text, (z 10).pa, (z 10).ps, (z 10).pas, (z 10).s, (z 10).ss, (z 10).r, (z 10).rr, (z 10).rt⟩ ?_
  refine ite_ok ⟨(z 11).text, (z 11).pa, (z 11).ps, (z 11).pas, (z 11).s, (z 11).ss, (z 11).r, (z 11).rr, (z 11).rt⟩ ?_
  refine ite_ok ⟨(z 12).text, (z 12).pa, (z 12).ps, (z 12).pas, (z 12).s, (z 12).ss, (z 12).r, (z 12).rr, (z 12).rt⟩ ?_
  refine ite_ok ⟨(z 13).text, (z 13).pa, (z 13).ps, (z 13).pas, (z 13).s, (z 13).ss, (z 13).r, (z 13).rr, (z 13).rt⟩ ?_
  exact ⟨(z 0).text, (z 0).pa, (z 0).ps, (z 0).pas, (z 0).s, (z 0).ss, (z 0).r, (z 0).rr, (z 0).rt⟩

theorem flat_len {α : Type} {f : α → Bs} {m : Nat} : ∀ {l : List α}, (∀ x, x ∈ l → (f x).length ≤ m) → (l.flatMap f).length ≤ l.length * m
  | [], _ => by simp
  | x :: l, h => by
    rw [List.flatMap_cons, List.length_append, List.length_cons, Nat.succ_mul]
    have := h x (by simp)
    have := flat_len (l := l) (fun y hy => h y (by simp [hy]))
    omega
theorem encTx_len (t : Bs) : (encTx t).length ≤ 9 + t.length := by
  have := encI_len t.length
  unfold encTx
  rw [List.length_append]
  omega
theorem encPt_len (p : Pt) : (encPt p).length ≤ 18 + p.a.length := by
  have := encI_len p.i
  have := encTx_len p.a
  unfold encPt
  rw [List.length_append]
  omega
theorem encVa_len (v : Va) : (encVa v).length ≤ 18 + v.t.length := by
  have h1 := encI_len v.k
  have h2 := encI_len v.n
  have h3 := encTx_len v.t
  unfold encVa
  rw [List.length_append]
  split
  · omega
  split
  · omega
  · simp; omega
theorem encPs_len (l : List Pt) (h1 : l.length ≤ 30) (h2 : ∀ p, p ∈ l → p.a.length ≤ 50) : (encPs l).length ≤ 3000 := by
  have := encI_len l.length
  have h3 := flat_len (f := encPt) (m := 68) (l := l) (fun p hp => by have := encPt_len p; have := h2 p hp; omega)
  unfold encPs
  rw [List.length_append]
  omega
theorem encB_len (b : Bool) : (encB b).length ≤ 9 := encI_len _
theorem encTb_len (t : Tb) (h1 : t.s.length ≤ 16) (h2 : t.r.length ≤ 20) (h3 : ∀ c, c ∈ t.s → c.name.length ≤ 1048576) (hf : ∀ q, q ∈ t.r → FitP t.s q) (h4 : ∀ q, q ∈ t.r → ∀ v, v ∈ q → v.t.length ≤ 1048576) : (encTb t.s t.r).length ≤ 400000000 := by
  have a1 := encI_len t.s.length
  have a2 := encI_len t.r.length
  have a3 := flat_len (f := encCo) (m := 1048594) (l := t.s) (fun c hc => by
    have := encTx_len c.name
    have := encI_len c.ty
    have := h3 c hc
    unfold encCo
    rw [List.length_append]
    omega)
  have a4 := flat_len (f := encRow) (m := 16777504) (l := t.r) (fun q hq => by
    have hl := (hf q hq).1
    have := flat_len (f := encVa) (m := 1048594) (l := q) (fun v hv => by
      have := encVa_len v
      have := h4 q hq v hv
      omega)
    unfold encRow
    omega)
  unfold encTb
  simp only [List.length_append]
  omega

theorem ev_len (e : Ev) (ho : EvOk e) (hs : Small e) (hR : e.rightB = true) (h3 : ∀ c, c ∈ e.s → c.name.length ≤ 1048576) (h4 : ∀ q, q ∈ e.r → ∀ v, v ∈ q → v.t.length ≤ 1048576) : (encEv e).length < 2000000000 := by
  obtain ⟨_, _, _, hc⟩ := rightB_inv hR
  have a0 := encI_len e.k
  have a1 := encI_len e.id
  have a2 := encI_len e.n
  have a3 := encI_len e.err
  have a4 := encTx_len e.text
  have a5 := encPt_len ⟨e.pa, e.pi⟩
  have a6 := encPs_len e.ps hs.ps hs.pas
  have a7 := encB_len e.flag
  have a8 : (e.k = 2 ∨ e.k = 8) → (encTb e.s e.r).length ≤ 400000000 := fun h => encTb_len e.t hs.s hs.r h3 ((chk_ok ho.tb).1 (hc h)) h4
  have b1 := hs.text
  have b2 := hs.pa
  dsimp only at a5
  unfold encEv
  rw [List.length_append]
  have key : ∀ {c : Prop} [Decidable c] {a b : Bs}, (c → a.length ≤ 400001000) → b.length ≤ 400001000 → (if c then a else b).length ≤ 400001000 := by
    intro c _ a b ha hb
    by_cases h : c
    · rw [if_pos h]; exact ha h
    · rw [if_neg h]; exact hb
  refine Nat.lt_of_le_of_lt (Nat.add_le_add a0 ?_) (show 9 + 400001000 < 2000000000 by decide)
  refine key (fun _ => by omega) ?_
  refine key (fun h => by have := a8 (Or.inl h); rw [List.length_append]; omega) ?_
  refine key (fun _ => by omega) ?_
  refine key (fun _ => by simp only [List.length_append]; omega) ?_
  refine key (fun _ => by simp only [List.length_append]; omega) ?_
  refine key (fun _ => by omega) ?_
  refine key (fun _ => by omega) ?_
  refine key (fun h => by have := a8 (Or.inr h); rw [List.length_append]; omega) ?_
  refine key (fun _ => by simp only [List.length_append]; omega) ?_
  refine key (fun _ => by omega) ?_
  refine key (fun _ => by omega) ?_
  show 0 ≤ _
  omega

set_option maxHeartbeats 4000000 in
theorem e3 (e : Ev) (ho : EvOk e) (hr : EvR e) (h3 : ∀ c, c ∈ e.s → c.name.length ≤ 1048576) (h4 : ∀ q, q ∈ e.r → ∀ v, v ∈ q → v.t.length ≤ 1048576) : VEv Tryd.prog gl 3 [.d e.d] [] (.d (.bool true)) [] := by
  have h6 := e6
  obtain ⟨b, hb, h5⟩ := e5 e ho.ps
  cases b with
  | false =>
    refine cp3.vev ?_
    conv => whnf
    repeat ((first | (apply guardI; · kernel_rfl) | (apply condT; · assumption) | (apply condF; · assumption) | (apply condNT; · assumption) | (apply condNF; · assumption)); conv => whnf)
    refine callK (h5) (by kernel_rfl) (by kernel_rfl) ?_
    conv => whnf
    repeat ((first | (apply guardI; · kernel_rfl) | (apply condT; · assumption) | (apply condF; · assumption) | (apply condNT; · assumption) | (apply condNF; · assumption)); conv => whnf)
    refine callK (h6) (by kernel_rfl) (by kernel_rfl) ?_
    conv => whnf
    repeat ((first | (apply guardI; · kernel_rfl) | (apply condT; · assumption) | (apply condF; · assumption) | (apply condNT; · assumption) | (apply condNF; · assumption)); conv => whnf)
    exact ⟨by kernel_rfl, by kernel_rfl⟩
  | true =>
    have hs := hb rfl
    have h8 := e8 e ho
    have h10 := e10 e
    have h11 := e11 e ho
    have h12 := e12 e ho
    have h9oo := e9 e.only e.only (only_ok ho)
    have h9o := e9 e e.only ho
    have h13e := e13 e e ho
    have h13o := e13 e e.only ho
    have hpl : e.plainB = e.rightB := by
      unfold Ev.plainB
      rw [decide_eq_true (show e.ps.length ≤ 16384 by have := hs.ps; omega), Bool.and_true]
    rw [decide_eq_true rfl] at h9oo h13e
    cases hR : e.rightB with
    | false =>
      have h7 := e7no e ho (by rw [hpl, hR])
      rw [hpl, hR] at h11
      rw [hR] at h12
      generalize decide (e = e.only) = d at h9o h13o
      cases d with
      | false =>
        refine cp3.vev ?_
        conv => whnf
        repeat ((first | (apply guardI; · kernel_rfl) | (apply condT; · assumption) | (apply condF; · assumption) | (apply condNT; · assumption) | (apply condNF; · assumption)); conv => whnf)
        refine callK (h5) (by kernel_rfl) (by kernel_rfl) ?_
        conv => whnf
        repeat ((first | (apply guardI; · kernel_rfl) | (apply condT; · assumption) | (apply condF; · assumption) | (apply condNT; · assumption) | (apply condNF; · assumption)); conv => whnf)
        refine callK (h7) (by kernel_rfl) (by kernel_rfl) ?_
        conv => whnf
        repeat ((first | (apply guardI; · kernel_rfl) | (apply condT; · assumption) | (apply condF; · assumption) | (apply condNT; · assumption) | (apply condNF; · assumption)); conv => whnf)
        refine callK (h8) (by kernel_rfl) (by kernel_rfl) ?_
        conv => whnf
        repeat ((first | (apply guardI; · kernel_rfl) | (apply condT; · assumption) | (apply condF; · assumption) | (apply condNT; · assumption) | (apply condNF; · assumption)); conv => whnf)
        refine callK (h10) (by kernel_rfl) (by kernel_rfl) ?_
        conv => whnf
        repeat ((first | (apply guardI; · kernel_rfl) | (apply condT; · assumption) | (apply condF; · assumption) | (apply condNT; · assumption) | (apply condNF; · assumption)); conv => whnf)
        refine callK (h9oo) (by kernel_rfl) (by kernel_rfl) ?_
        conv => whnf
        repeat ((first | (apply guardI; · kernel_rfl) | (apply condT; · assumption) | (apply condF; · assumption) | (apply condNT; · assumption) | (apply condNF; · assumption)); conv => whnf)
        refine callK (h11) (by kernel_rfl) (by kernel_rfl) ?_
        conv => whnf
        repeat ((first | (apply guardI; · kernel_rfl) | (apply condT; · assumption) | (apply condF; · assumption) | (apply condNT; · assumption) | (apply condNF; · assumption)); conv => whnf)
        refine callK (h12) (by kernel_rfl) (by kernel_rfl) ?_
        conv => whnf
        repeat ((first | (apply guardI; · kernel_rfl) | (apply condT; · assumption) | (apply condF; · assumption) | (apply condNT; · assumption) | (apply condNF; · assumption)); conv => whnf)
        refine callK (h13e) (by kernel_rfl) (by kernel_rfl) ?_
        conv => whnf
        repeat ((first | (apply guardI; · kernel_rfl) | (apply condT; · assumption) | (apply condF; · assumption) | (apply condNT; · assumption) | (apply condNF; · assumption)); conv => whnf)
        refine callK (h13o) (by kernel_rfl) (by kernel_rfl) ?_
        conv => whnf
        repeat ((first | (apply guardI; · kernel_rfl) | (apply condT; · assumption) | (apply condF; · assumption) | (apply condNT; · assumption) | (apply condNF; · assumption)); conv => whnf)
        refine callK (h9o) (by kernel_rfl) (by kernel_rfl) ?_
        conv => whnf
        repeat ((first | (apply guardI; · kernel_rfl) | (apply condT; · assumption) | (apply condF; · assumption) | (apply condNT; · assumption) | (apply condNF; · assumption)); conv => whnf)
        refine callK (h12) (by kernel_rfl) (by kernel_rfl) ?_
        conv => whnf
        repeat ((first | (apply guardI; · kernel_rfl) | (apply condT; · assumption) | (apply condF; · assumption) | (apply condNT; · assumption) | (apply condNF; · assumption)); conv => whnf)
        refine callK (h6) (by kernel_rfl) (by kernel_rfl) ?_
        conv => whnf
        repeat ((first | (apply guardI; · kernel_rfl) | (apply condT; · assumption) | (apply condF; · assumption) | (apply condNT; · assumption) | (apply condNF; · assumption)); conv => whnf)
        exact ⟨by kernel_rfl, by kernel_rfl⟩
      | true =>
        refine cp3.vev ?_
        conv => whnf
        repeat ((first | (apply guardI; · kernel_rfl) | (apply condT; · assumption) | (apply condF; · assumption) | (apply condNT; · assumption) | (apply condNF; · assumption)); conv => whnf)
        refine callK (h5) (by kernel_rfl) (by kernel_rfl) ?_
        conv => whnf
        repeat ((first | (apply guardI; · kernel_rfl) | (apply condT; · assumption) | (apply condF; · assumption) | (apply condNT; · assumption) | (apply condNF; · assumption)); conv => whnf)
        refine callK (h7) (by kernel_rfl) (by kernel_rfl) ?_
        conv => whnf
        repeat ((first | (apply guardI; · kernel_rfl) | (apply condT; · assumption) | (apply condF; · assumption) | (apply condNT; · assumption) | (apply condNF; · assumption)); conv => whnf)
        refine callK (h8) (by kernel_rfl) (by kernel_rfl) ?_
        conv => whnf
        repeat ((first | (apply guardI; · kernel_rfl) | (apply condT; · assumption) | (apply condF; · assumption) | (apply condNT; · assumption) | (apply condNF; · assumption)); conv => whnf)
        refine callK (h10) (by kernel_rfl) (by kernel_rfl) ?_
        conv => whnf
        repeat ((first | (apply guardI; · kernel_rfl) | (apply condT; · assumption) | (apply condF; · assumption) | (apply condNT; · assumption) | (apply condNF; · assumption)); conv => whnf)
        refine callK (h9oo) (by kernel_rfl) (by kernel_rfl) ?_
        conv => whnf
        repeat ((first | (apply guardI; · kernel_rfl) | (apply condT; · assumption) | (apply condF; · assumption) | (apply condNT; · assumption) | (apply condNF; · assumption)); conv => whnf)
        refine callK (h11) (by kernel_rfl) (by kernel_rfl) ?_
        conv => whnf
        repeat ((first | (apply guardI; · kernel_rfl) | (apply condT; · assumption) | (apply condF; · assumption) | (apply condNT; · assumption) | (apply condNF; · assumption)); conv => whnf)
        refine callK (h12) (by kernel_rfl) (by kernel_rfl) ?_
        conv => whnf
        repeat ((first | (apply guardI; · kernel_rfl) | (apply condT; · assumption) | (apply condF; · assumption) | (apply condNT; · assumption) | (apply condNF; · assumption)); conv => whnf)
        refine callK (h13e) (by kernel_rfl) (by kernel_rfl) ?_
        conv => whnf
        repeat ((first | (apply guardI; · kernel_rfl) | (apply condT; · assumption) | (apply condF; · assumption) | (apply condNT; · assumption) | (apply condNF; · assumption)); conv => whnf)
        refine callK (h13o) (by kernel_rfl) (by kernel_rfl) ?_
        conv => whnf
        repeat ((first | (apply guardI; · kernel_rfl) | (apply condT; · assumption) | (apply condF; · assumption) | (apply condNT; · assumption) | (apply condNF; · assumption)); conv => whnf)
        refine callK (h9o) (by kernel_rfl) (by kernel_rfl) ?_
        conv => whnf
        repeat ((first | (apply guardI; · kernel_rfl) | (apply condT; · assumption) | (apply condF; · assumption) | (apply condNT; · assumption) | (apply condNF; · assumption)); conv => whnf)
        refine callK (h12) (by kernel_rfl) (by kernel_rfl) ?_
        conv => whnf
        repeat ((first | (apply guardI; · kernel_rfl) | (apply condT; · assumption) | (apply condF; · assumption) | (apply condNT; · assumption) | (apply condNF; · assumption)); conv => whnf)
        refine callK (h6) (by kernel_rfl) (by kernel_rfl) ?_
        conv => whnf
        repeat ((first | (apply guardI; · kernel_rfl) | (apply condT; · assumption) | (apply condF; · assumption) | (apply condNT; · assumption) | (apply condNF; · assumption)); conv => whnf)
        exact ⟨by kernel_rfl, by kernel_rfl⟩
    | true =>
      obtain ⟨k1, k2, k3, k4⟩ := rightB_inv hR
      have hlen := ev_len e ho hs hR h3 h4
      have h7 := e7 e ho hr (by rw [hpl, hR]) ⟨k1, k2⟩ hlen
      rw [hpl, hR] at h11
      rw [hR] at h12
      rw [decide_eq_true k3] at h9o h13o
      have h14 := e14 (encEv e) (Nat.lt_trans hlen (by decide))
      rw [readS_ok e ho hr hR (by have := hs.ps; omega) hs.s (by have := hs.r; omega)] at h14
      have h15 := e15 e ho hr ⟨k1, k2⟩ (Nat.lt_trans hlen (by decide))
      have h9e := e9 e e ho
      rw [decide_eq_true rfl] at h9e
      have hu : unbytes ((encEv e).map byteD) = some (encEv e) := unbytes_map _
      have t4 : decide (encEv e = encEv e) = true := by simp
      generalize encEv e = w at h7 h14 h15 hu t4
      refine cp3.vev ?_
      conv => whnf
      repeat ((first | (apply guardI; · kernel_rfl) | (apply condT; · assumption) | (apply condF; · assumption) | (apply condNT; · assumption) | (apply condNF; · assumption)); conv => whnf)
      refine callK (h5) (by kernel_rfl) (by kernel_rfl) ?_
      conv => whnf
      repeat ((first | (apply guardI; · kernel_rfl) | (apply condT; · assumption) | (apply condF; · assumption) | (apply condNT; · assumption) | (apply condNF; · assumption)); conv => whnf)
      refine callK (h7) (by kernel_rfl) (by kernel_rfl) ?_
      conv => whnf
      repeat ((first | (apply guardI; · kernel_rfl) | (apply condT; · assumption) | (apply condF; · assumption) | (apply condNT; · assumption) | (apply condNF; · assumption)); conv => whnf)
      refine callK (h8) (by kernel_rfl) (by kernel_rfl) ?_
      conv => whnf
      repeat ((first | (apply guardI; · kernel_rfl) | (apply condT; · assumption) | (apply condF; · assumption) | (apply condNT; · assumption) | (apply condNF; · assumption)); conv => whnf)
      refine callK (h10) (by kernel_rfl) (by kernel_rfl) ?_
      conv => whnf
      repeat ((first | (apply guardI; · kernel_rfl) | (apply condT; · assumption) | (apply condF; · assumption) | (apply condNT; · assumption) | (apply condNF; · assumption)); conv => whnf)
      refine callK (h9oo) (by kernel_rfl) (by kernel_rfl) ?_
      conv => whnf
      repeat ((first | (apply guardI; · kernel_rfl) | (apply condT; · assumption) | (apply condF; · assumption) | (apply condNT; · assumption) | (apply condNF; · assumption)); conv => whnf)
      refine callK (h11) (by kernel_rfl) (by kernel_rfl) ?_
      conv => whnf
      repeat ((first | (apply guardI; · kernel_rfl) | (apply condT; · assumption) | (apply condF; · assumption) | (apply condNT; · assumption) | (apply condNF; · assumption)); conv => whnf)
      refine callK (h12) (by kernel_rfl) (by kernel_rfl) ?_
      conv => whnf
      repeat ((first | (apply guardI; · kernel_rfl) | (apply condT; · assumption) | (apply condF; · assumption) | (apply condNT; · assumption) | (apply condNF; · assumption)); conv => whnf)
      refine callK (h13e) (by kernel_rfl) (by kernel_rfl) ?_
      conv => whnf
      repeat ((first | (apply guardI; · kernel_rfl) | (apply condT; · assumption) | (apply condF; · assumption) | (apply condNT; · assumption) | (apply condNF; · assumption)); conv => whnf)
      refine callK (h13o) (by kernel_rfl) (by kernel_rfl) ?_
      conv => whnf
      repeat ((first | (apply guardI; · kernel_rfl) | (apply condT; · assumption) | (apply condF; · assumption) | (apply condNT; · assumption) | (apply condNF; · assumption)); conv => whnf)
      refine callK (h9o) (by kernel_rfl) (by kernel_rfl) ?_
      conv => whnf
      repeat ((first | (apply guardI; · kernel_rfl) | (apply condT; · assumption) | (apply condF; · assumption) | (apply condNT; · assumption) | (apply condNF; · assumption)); conv => whnf)
      refine callK (h12) (by kernel_rfl) (by kernel_rfl) ?_
      conv => whnf
      repeat ((first | (apply guardI; · kernel_rfl) | (apply condT; · assumption) | (apply condF; · assumption) | (apply condNT; · assumption) | (apply condNF; · assumption)); conv => whnf)
      refine callK (h14) (by kernel_rfl) (by kernel_rfl) ?_
      conv => whnf
      repeat ((first | (apply guardI; · kernel_rfl) | (apply condT; · assumption) | (apply condF; · assumption) | (apply condNT; · assumption) | (apply condNF; · assumption)); conv => whnf)
      simp only [hu]
      conv => whnf
      repeat ((first | (apply guardI; · kernel_rfl) | (apply condT; · assumption) | (apply condF; · assumption) | (apply condNT; · assumption) | (apply condNF; · assumption)); conv => whnf)
      refine callK (h15) (by kernel_rfl) (by kernel_rfl) ?_
      conv => whnf
      repeat ((first | (apply guardI; · kernel_rfl) | (apply condT; · assumption) | (apply condF; · assumption) | (apply condNT; · assumption) | (apply condNF; · assumption)); conv => whnf)
      simp only [hu]
      conv => whnf
      repeat ((first | (apply guardI; · kernel_rfl) | (apply condT; · assumption) | (apply condF; · assumption) | (apply condNT; · assumption) | (apply condNF; · assumption)); conv => whnf)
      refine callK (h9e) (by kernel_rfl) (by kernel_rfl) ?_
      conv => whnf
      repeat ((first | (apply guardI; · kernel_rfl) | (apply condT; · assumption) | (apply condF; · assumption) | (apply condNT; · assumption) | (apply condNF; · assumption)); conv => whnf)
      refine callK (h6) (by kernel_rfl) (by kernel_rfl) ?_
      conv => whnf
      repeat ((first | (apply guardI; · kernel_rfl) | (apply condT; · assumption) | (apply condF; · assumption) | (apply condNT; · assumption) | (apply condNF; · assumption)); conv => whnf)
      exact ⟨by kernel_rfl, by kernel_rfl⟩

theorem events_said : Rows.CodeEventsUptoCardSaid := card3 fun qs h => by
  obtain ⟨e, ho, hr, h3, h4, rfl⟩ := args3 (by decide) h
  exact e3 e ho hr h3 h4

end Go.Proofs.YthalcnhgnadmlaaDoor
