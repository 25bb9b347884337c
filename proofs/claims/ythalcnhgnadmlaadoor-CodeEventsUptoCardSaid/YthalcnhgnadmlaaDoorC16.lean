/- Bytes: numbers read and numbers written are one. Conditions: none. -/
import Derived.Test.YthalcnhgnadmlaaDoorC14
import Derived.Test.YthalcnhgnadmlaaDoorC15
set_option maxRecDepth 100000
namespace Go.Proofs.YthalcnhgnadmlaaDoor
open Go Go.Vm

theorem leV_leF : ∀ f n, n < 256 ^ f → leV (leF f n) = n
  | 0, n, h => by simp at h; simp [leF, leV, h]
  | f + 1, n, h => by
    by_cases h0 : n = 0
    · subst h0; simp [leF, leV]
    · rw [leF_step h0]
      simp only [leV]
      rw [leV_leF f (n / 256) (by rw [Nat.pow_succ] at h; omega)]
      have : (UInt8.ofNat n).toNat = n % 256 := by simp
      omega

/-- The last is not 0. -/
def lastNZ (l : Bs) : Prop := 0 < l.length → l.getD (l.length - 1) 0 ≠ 0
theorem lastNZ_one {c : UInt8} (h : lastNZ [c]) : c ≠ 0 := h (by simp)
theorem lastNZ_tail {c d : UInt8} {t : Bs} : lastNZ (c :: d :: t) ↔ lastNZ (d :: t) := by
  unfold lastNZ
  simp
theorem lastNZ_leF : ∀ f n, n < 256 ^ f → lastNZ (leF f n)
  | 0, n, h => by simp [leF, lastNZ]
  | f + 1, n, h => by
    by_cases h0 : n = 0
    · subst h0; simp [leF, lastNZ]
    · rw [leF_step h0]
      have ih := lastNZ_leF f (n / 256) (by rw [Nat.pow_succ] at h; omega)
      have hv := leV_leF f (n / 256) (by rw [Nat.pow_succ] at h; omega)
      generalize ht : leF f (n / 256) = t at ih hv
      cases t with
      | nil =>
        simp only [leV] at hv
        intro _ hc
        have h1 : (UInt8.ofNat n).toNat = n % 256 := by simp
        have h2 : UInt8.ofNat n = 0 := hc
        rw [h2] at h1
        have h3 : (0 : UInt8).toNat = 0 := rfl
        omega
      | cons d t => exact lastNZ_tail.2 ih

theorem leV_pos : ∀ l : Bs, l ≠ [] → lastNZ l → leV l ≠ 0
  | [], h, _ => absurd rfl h
  | [c], _, h => by
    have hc := lastNZ_one h
    simp only [leV]
    intro h0
    exact hc (UInt8.toNat_inj.mp (by have h3 : (0 : UInt8).toNat = 0 := rfl; omega))
  | c :: d :: t, _, h => by
    have := leV_pos (d :: t) (by simp) (lastNZ_tail.1 h)
    rw [leV]
    omega

theorem leF_leV : ∀ (l : Bs) (f : Nat), l.length ≤ f → lastNZ l → leF f (leV l) = l
  | [], f, _, _ => by rw [leV, leF_zero]
  | c :: t, 0, h, _ => by simp at h
  | c :: t, f + 1, h, hz => by
    have hp := leV_pos (c :: t) (by simp) hz
    rw [leF_step hp]
    have hc := c.toNat_lt
    have e1 : leV (c :: t) / 256 = leV t := by rw [leV]; omega
    have e2 : UInt8.ofNat (leV (c :: t)) = c := by
      apply UInt8.toNat_inj.1
      have : (UInt8.ofNat (leV (c :: t))).toNat = leV (c :: t) % 256 := by simp
      rw [this, leV]; omega
    have ht : lastNZ t := by
      cases t with
      | nil => intro h; simp at h
      | cons d t => exact lastNZ_tail.1 hz
    rw [e1, e2, leF_leV t f (by simpa using h) ht]

theorem decI_encI (n : Int) (hn : I64 n) (r : Bs) : decI (encI n ++ r) = some (n, r) := by
  have hl := leF_len 8 (magI n)
  have hm := magI_lt hn
  have hv := leV_leF 8 (magI n) (by omega)
  have hz := lastNZ_leF 8 (magI n) (by omega)
  have hh : (UInt8.ofNat ((leF 8 (magI n)).length + (if n < 0 then 16 else 0))).toNat = (leF 8 (magI n)).length + (if n < 0 then 16 else 0) := by
    simp; split <;> omega
  have hs : szOfHead (UInt8.ofNat ((leF 8 (magI n)).length + (if n < 0 then 16 else 0))) = (leF 8 (magI n)).length := by
    unfold szOfHead
    rw [hh]
    by_cases h0 : n < 0
    · rw [if_pos h0, if_pos (by omega)]; omega
    · rw [if_neg h0, if_neg (by omega)]; omega
  unfold encI
  rw [List.cons_append, decI_cons, hs, if_neg (by omega), if_neg (by simp), List.take_left, List.drop_left, hv]
  rw [if_neg]
  · rw [hh]
    congr 2
    by_cases h0 : n < 0
    · rw [if_pos h0, if_pos (by omega), magI, if_pos h0]; omega
    · rw [if_neg h0, if_neg (by omega), magI, if_neg h0]; omega
  · rintro (⟨h1, h2⟩ | h)
    · exact hz h1 h2
    · rw [hv] at h; omega

theorem encI_decI {b : Bs} {n : Int} {r : Bs} (h : decI b = some (n, r)) : b = encI n ++ r ∧ I64 n := by
  cases b with
  | nil => simp [decI] at h
  | cons c t =>
    rw [decI_cons] at h
    split at h
    · simp at h
    split at h
    · simp at h
    split at h
    · simp at h
    rename_i h8 hlt hb
    have hc := c.toNat_lt
    injection h with h
    injection h with h1 h2
    obtain ⟨l, hl⟩ : ∃ l, l = t.take (szOfHead c) := ⟨_, rfl⟩
    rw [← hl] at h1 hb
    have hll : l.length = szOfHead c := by rw [hl, List.length_take]; omega
    have htl : t = l ++ r := by rw [hl, ← h2, List.take_append_drop]
    have hz : lastNZ l := fun hp hq => hb (Or.inl ⟨hp, hq⟩)
    have hlt : leV l < 9223372036854775808 := by
      have : ¬ 9223372036854775808 ≤ leV l := fun hq => hb (Or.inr hq)
      omega
    have hi := leF_leV l 8 (by omega) hz
    have hmag : magI n = leV l := by
      unfold magI
      rw [← h1]
      by_cases h16 : 16 ≤ c.toNat
      · rw [if_pos h16, if_pos (by omega)]; omega
      · rw [if_neg h16, if_neg (by omega)]; omega
    have hneg : n < 0 ↔ 16 ≤ c.toNat := by
      rw [← h1]
      by_cases h16 : 16 ≤ c.toNat
      · rw [if_pos h16]; constructor <;> intro <;> omega
      · rw [if_neg h16]; constructor <;> intro <;> omega
    constructor
    · unfold encI
      rw [hmag, hi, List.cons_append, ← htl, hll]
      congr 1
      apply UInt8.toNat_inj.1
      unfold szOfHead
      by_cases h16 : 16 ≤ c.toNat
      · rw [if_pos h16, if_pos (hneg.2 h16)]; simp; omega
      · rw [if_neg h16, if_neg (fun h => h16 (hneg.1 h))]; simp
    · unfold I64
      rw [← h1]
      split <;> omega

theorem e30 (b : Bs) : R30 b := by
  cases b with
  | nil =>
    refine ⟨fun n r h => by simp [decI] at h, fun _ => ?_⟩
    have ht := take_no [] false 1 (by right; right; simp)
    refine cp30.vev ?_
    conv => whnf
    repeat ((first | (apply guardI; · kernel_rfl) | (apply condT; · assumption) | (apply condF; · assumption) | (apply condNT; · assumption) | (apply condNF; · assumption)); conv => whnf)
    refine ⟨_, _, ht, ?_⟩
    conv => whnf
    repeat ((first | (apply guardI; · kernel_rfl) | (apply condT; · assumption) | (apply condF; · assumption) | (apply condNT; · assumption) | (apply condNF; · assumption)); conv => whnf)
    exact ⟨by kernel_rfl, by kernel_rfl⟩
  | cons c t =>
    by_cases h : 16 ≤ c.toNat
    · exact e30neg c t h
    · exact e30pos c t h

/-- A reader: what is left, and is it bad? -/
structure RS where
  b : Bs
  bad : Bool
def RS.st (s : RS) : Store := rdr s.b s.bad

def takeS (s : RS) (n : Int) : Bs × RS := if s.bad = true ∨ n < 0 ∨ (s.b.length : Int) < n then ([], ⟨s.b, true⟩) else (s.b.take n.toNat, ⟨s.b.drop n.toNat, false⟩)
theorem e56 (s : RS) (n : Int) : VEv Tryd.prog gl 56 [.ptr 0 0, .d (int n)] s.st (.d (bs (takeS s n).1)) (takeS s n).2.st := by
  cases s with
  | mk b bad =>
  unfold takeS
  by_cases h : bad = true ∨ n < 0 ∨ (b.length : Int) < n
  · rw [if_pos h]; exact take_no b bad n h
  · rw [if_neg h]
    have hb : bad = false := by cases bad <;> simp at h ⊢
    subst hb
    exact take_ok b n (by omega) (by omega)

def intS (s : RS) : Int × RS := if s.bad = true then (0, s) else match decI s.b with
  | some (n, r) => (n, ⟨r, false⟩)
  | none => (0, ⟨decR s.b, true⟩)
theorem e30s (s : RS) : VEv Tryd.prog gl 30 [.ptr 0 0] s.st (.d (int (intS s).1)) (intS s).2.st := by
  cases s with
  | mk b bad =>
  cases bad with
  | true =>
    have ht := take_no b true 1 (by left; rfl)
    show VEv Tryd.prog gl 30 [.ptr 0 0] (rdr b true) (.d (int 0)) (rdr b true)
    refine cp30.vev ?_
    conv => whnf
    repeat ((first | (apply guardI; · kernel_rfl) | (apply condT; · assumption) | (apply condF; · assumption) | (apply condNT; · assumption) | (apply condNF; · assumption)); conv => whnf)
    refine ⟨_, _, ht, ?_⟩
    conv => whnf
    repeat ((first | (apply guardI; · kernel_rfl) | (apply condT; · assumption) | (apply condF; · assumption) | (apply condNT; · assumption) | (apply condNF; · assumption)); conv => whnf)
    exact ⟨by kernel_rfl, by kernel_rfl⟩
  | false =>
    unfold intS
    cases h : decI b with
    | none => simpa [h, RS.st] using (e30 b).2 h
    | some p =>
      obtain ⟨n, r⟩ := p
      simpa [h, RS.st] using (e30 b).1 n r h

end Go.Proofs.YthalcnhgnadmlaaDoor
