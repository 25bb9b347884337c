/- Bytes: a number is read (not negative). Conditions: none. -/
import Derived.Test.YthalcnhgnadmlaaDoorC13
set_option maxRecDepth 100000
namespace Go.Proofs.YthalcnhgnadmlaaDoor
open Go Go.Vm
section
attribute [local irreducible] Int.decLt Int.decLe Int.instDecidableEq IntKind.wrap instDecidableEqList
set_option maxHeartbeats 1600000 in
theorem e30pos (c : UInt8) (t : Bs) (h16 : ¬ 16 ≤ c.toNat) : R30 (c :: t) := by
  unfold R30
  rw [decI_cons]
  have hc : c.toNat < 256 := c.toNat_lt
  have ht1 := take_ok (c :: t) 1 (by omega) (by simp; omega)
  have e1 : (c :: t).take (Int.toNat 1) = [c] := rfl
  have e2 : (c :: t).drop (Int.toNat 1) = t := rfl
  rw [e1, e2] at ht1
  have hw8 : IntKind.i64.wrap (c.toNat : Int) = (c.toNat : Int) := wrapI (by omega) (by omega)
  have e3 : IntKind.i64.wrap (c.toNat : Int) = (szOfHead c : Int) := by rw [hw8]; simp only [szOfHead, if_neg h16]
  by_cases h8 : 8 < szOfHead c
  · rw [if_pos h8]
    refine ⟨fun n rest h => by simp at h, fun _ => ?_⟩
    rw [show decR (c :: t) = t by rw [decR_cons, if_pos h8]]
    refine cp30.vev ?_
    conv => whnf
    repeat ((first | (apply guardI; · kernel_rfl) | (apply condT; · assumption) | (apply condF; · assumption) | (apply condNT; · assumption) | (apply condNF; · assumption)); conv => whnf)
    refine ⟨_, _, ht1, ?_⟩
    conv => whnf
    repeat ((first | (apply guardI; · kernel_rfl) | (apply condT; · assumption) | (apply condF; · assumption) | (apply condNT; · assumption) | (apply condNF; · assumption)); conv => whnf)
    refine condF (show decide ((16 : Int) ≤ IntKind.i64.wrap (c.toNat : Int)) = false by rw [hw8]; simp; omega) ?_
    conv => whnf
    repeat ((first | (apply guardI; · kernel_rfl) | (apply condT; · assumption) | (apply condF; · assumption) | (apply condNT; · assumption) | (apply condNF; · assumption)); conv => whnf)
    refine condT (show decide ((8 : Int) < IntKind.i64.wrap (c.toNat : Int)) = true by rw [e3]; simp; omega) ?_
    conv => whnf
    repeat ((first | (apply guardI; · kernel_rfl) | (apply condT; · assumption) | (apply condF; · assumption) | (apply condNT; · assumption) | (apply condNF; · assumption)); conv => whnf)
    exact ⟨by kernel_rfl, by kernel_rfl⟩
  rw [if_neg h8]
  by_cases hlt : t.length < szOfHead c
  · rw [if_pos hlt]
    refine ⟨fun n rest h => by simp at h, fun _ => ?_⟩
    rw [show decR (c :: t) = t by rw [decR_cons, if_neg h8, if_pos hlt]]
    have h56 : VEv Tryd.prog gl 56 [.ptr 0 0, .d (int (IntKind.i64.wrap (c.toNat : Int)))] (rdr t false) (.d (bs [])) (rdr t true) := take_no t false _ (by rw [e3]; right; right; omega)
    refine cp30.vev ?_
    conv => whnf
    repeat ((first | (apply guardI; · kernel_rfl) | (apply condT; · assumption) | (apply condF; · assumption) | (apply condNT; · assumption) | (apply condNF; · assumption)); conv => whnf)
    refine ⟨_, _, ht1, ?_⟩
    conv => whnf
    repeat ((first | (apply guardI; · kernel_rfl) | (apply condT; · assumption) | (apply condF; · assumption) | (apply condNT; · assumption) | (apply condNF; · assumption)); conv => whnf)
    refine condF (show decide ((16 : Int) ≤ IntKind.i64.wrap (c.toNat : Int)) = false by rw [hw8]; simp; omega) ?_
    conv => whnf
    repeat ((first | (apply guardI; · kernel_rfl) | (apply condT; · assumption) | (apply condF; · assumption) | (apply condNT; · assumption) | (apply condNF; · assumption)); conv => whnf)
    refine condF (show decide ((8 : Int) < IntKind.i64.wrap (c.toNat : Int)) = false by rw [e3]; simp; omega) ?_
    conv => whnf
    repeat ((first | (apply guardI; · kernel_rfl) | (apply condT; · assumption) | (apply condF; · assumption) | (apply condNT; · assumption) | (apply condNF; · assumption)); conv => whnf)
    refine ⟨_, _, h56, ?_⟩
    conv => whnf
    repeat ((first | (apply guardI; · kernel_rfl) | (apply condT; · assumption) | (apply condF; · assumption) | (apply condNT; · assumption) | (apply condNF; · assumption)); conv => whnf)
    refine ⟨_, _, e57 [], ?_⟩
    conv => whnf
    repeat ((first | (apply guardI; · kernel_rfl) | (apply condT; · assumption) | (apply condF; · assumption) | (apply condNT; · assumption) | (apply condNF; · assumption)); conv => whnf)
    refine ⟨vf70, cp70, ?_⟩
    conv => whnf
    repeat ((first | (apply guardI; · kernel_rfl) | (apply condT; · assumption) | (apply condF; · assumption) | (apply condNT; · assumption) | (apply condNF; · assumption)); conv => whnf)
    refine ⟨fun n st => st = st70 t true 0 [] (-1), 0, Eq.trans (b := st70 t true 0 [] (IntKind.i64.wrap (((([] : Bs).map byteD).length : Int) - 1))) (by kernel_rfl) (congrArg (st70 t true 0 []) (show IntKind.i64.wrap (((([] : Bs).map byteD).length : Int) - 1) = -1 by rw [wrapI (by simp) (by simp)]; simp)), ?_⟩
    rintro _ _ rfl
    conv => whnf
    repeat ((first | (apply guardI; · kernel_rfl) | (apply condT; · assumption) | (apply condF; · assumption) | (apply condNT; · assumption) | (apply condNF; · assumption)); conv => whnf)
    refine condF (show decide ((0 : Int) ≤ -1) = false by kernel_rfl) ?_
    conv => whnf
    repeat ((first | (apply guardI; · kernel_rfl) | (apply condT; · assumption) | (apply condF; · assumption) | (apply condNT; · assumption) | (apply condNF; · assumption)); conv => whnf)
    exact ⟨by kernel_rfl, by kernel_rfl⟩
  rw [if_neg hlt]
  obtain ⟨l, hl⟩ : ∃ l, l = t.take (szOfHead c) := ⟨_, rfl⟩
  obtain ⟨rest, hrest⟩ : ∃ rest, rest = t.drop (szOfHead c) := ⟨_, rfl⟩
  rw [← hl, ← hrest]
  have hll : l.length = szOfHead c := by rw [hl, List.length_take]; omega
  have hl8 : l.length ≤ 8 := by omega
  have h56 : VEv Tryd.prog gl 56 [.ptr 0 0, .d (int (IntKind.i64.wrap (c.toNat : Int)))] (rdr t false) (.d (bs l)) (rdr rest false) := by
    have := take_ok t (IntKind.i64.wrap (c.toNat : Int)) (by rw [e3]; omega) (by rw [e3]; omega)
    have e4 : Int.toNat (IntKind.i64.wrap (c.toNat : Int)) = szOfHead c := by rw [e3]; rfl
    rw [e4, ← hl, ← hrest] at this
    exact this
  -- what is done, up to the test
  have walk : ∀ (Q : Val → Store → Prop), (badNum l → Q (.d (int 0)) (rdr rest true)) → (¬ badNum l → Q (.d (int (leV l : Int))) (rdr rest false)) → runF (AP Tryd.prog gl) gl vf30 [.ptr 0 0] (rdr (c :: t) false) Q := by
    intro Q hbad hok
    conv => whnf
    repeat ((first | (apply guardI; · kernel_rfl) | (apply condT; · assumption) | (apply condF; · assumption) | (apply condNT; · assumption) | (apply condNF; · assumption)); conv => whnf)
    refine ⟨_, _, ht1, ?_⟩
    conv => whnf
    repeat ((first | (apply guardI; · kernel_rfl) | (apply condT; · assumption) | (apply condF; · assumption) | (apply condNT; · assumption) | (apply condNF; · assumption)); conv => whnf)
    refine condF (show decide ((16 : Int) ≤ IntKind.i64.wrap (c.toNat : Int)) = false by rw [hw8]; simp; omega) ?_
    conv => whnf
    repeat ((first | (apply guardI; · kernel_rfl) | (apply condT; · assumption) | (apply condF; · assumption) | (apply condNT; · assumption) | (apply condNF; · assumption)); conv => whnf)
    refine condF (show decide ((8 : Int) < IntKind.i64.wrap (c.toNat : Int)) = false by rw [e3]; simp; omega) ?_
    conv => whnf
    repeat ((first | (apply guardI; · kernel_rfl) | (apply condT; · assumption) | (apply condF; · assumption) | (apply condNT; · assumption) | (apply condNF; · assumption)); conv => whnf)
    refine ⟨_, _, h56, ?_⟩
    conv => whnf
    repeat ((first | (apply guardI; · kernel_rfl) | (apply condT; · assumption) | (apply condF; · assumption) | (apply condNT; · assumption) | (apply condNF; · assumption)); conv => whnf)
    refine ⟨_, _, e57 l, ?_⟩
    conv => whnf
    repeat ((first | (apply guardI; · kernel_rfl) | (apply condT; · assumption) | (apply condF; · assumption) | (apply condNT; · assumption) | (apply condNF; · assumption)); conv => whnf)
    refine ⟨vf70, cp70, ?_⟩
    conv => whnf
    repeat ((first | (apply guardI; · kernel_rfl) | (apply condT; · assumption) | (apply condF; · assumption) | (apply condNT; · assumption) | (apply condNF; · assumption)); conv => whnf)
    refine ⟨fun n st => ∃ i : Nat, i ≤ l.length ∧ n = i ∧ st = st70 rest false (leV (l.drop i)) l ((i : Int) - 1), l.length, ⟨l.length, Nat.le_refl _, rfl, ?_⟩, ?_⟩
    · have e5 : IntKind.i64.wrap (((l.map byteD).length : Int) - 1) = (l.length : Int) - 1 := by rw [List.length_map, wrapI (by omega) (by omega)]
      have e6 : leV (l.drop l.length) = 0 := by rw [List.drop_length]; rfl
      exact Eq.trans (b := st70 rest false 0 l (IntKind.i64.wrap (((l.map byteD).length : Int) - 1))) (by kernel_rfl) (show st70 rest false 0 l (IntKind.i64.wrap (((l.map byteD).length : Int) - 1)) = st70 rest false (leV (l.drop l.length) : Int) l ((l.length : Int) - 1) by rw [e5, e6]; rfl)
    intro n st hI
    have hJ : (n = 0 ∧ st = st70 rest false (leV l) l (-1)) ∨ ∃ j : Nat, j < l.length ∧ n = j + 1 ∧ st = st70 rest false (leV (l.drop (j + 1))) l (j : Int) := by
      obtain ⟨i, hi, hn, hst⟩ := hI
      rcases i with _ | j
      · left
        refine ⟨hn, ?_⟩
        rw [hst, List.drop_zero]; exact congrArg _ (by omega)
      · right
        refine ⟨j, by omega, hn, ?_⟩
        rw [hst]; exact congrArg _ (by omega)
    clear hI
    refine Or.elim hJ (fun hJ => ?_) (fun hJ => ?_)
    · have hst := hJ.2
      clear hJ
      subst hst
      conv => whnf
      repeat ((first | (apply guardI; · kernel_rfl) | (apply condT; · assumption) | (apply condF; · assumption) | (apply condNT; · assumption) | (apply condNF; · assumption)); conv => whnf)
      refine condF (show decide ((0 : Int) ≤ -1) = false by kernel_rfl) ?_
      conv => whnf
      repeat ((first | (apply guardI; · kernel_rfl) | (apply condT; · assumption) | (apply condF; · assumption) | (apply condNT; · assumption) | (apply condNF; · assumption)); conv => whnf)
      by_cases hl0 : 0 < l.length
      · have hs : decide ((0 : Int) < IntKind.i64.wrap (c.toNat : Int)) = true := by rw [e3]; simp; omega
        conv => whnf
        repeat ((first | (apply condT; · assumption) | (apply condF; · assumption) | (apply condNT; · assumption) | (apply condNF; · assumption)); conv => whnf)
        refine ⟨by kernel_rfl, ?_⟩
        conv => whnf
        repeat ((first | (apply condT; · assumption) | (apply condF; · assumption) | (apply condNT; · assumption) | (apply condNF; · assumption)); conv => whnf)
        refine ⟨by kernel_rfl, ?_⟩
        conv => whnf
        repeat ((first | (apply condT; · assumption) | (apply condF; · assumption) | (apply condNT; · assumption) | (apply condNF; · assumption)); conv => whnf)
        have e11 : IntKind.i64.wrap (IntKind.i64.wrap (c.toNat : Int) - 1) = ((l.length - 1 : Nat) : Int) := by rw [e3, wrapI (by omega) (by omega)]; omega
        refine ⟨by rw [e11]; simp; omega, ?_⟩
        have hg : (l.map byteD).getD (Int.toNat (IntKind.i64.wrap (IntKind.i64.wrap (c.toNat : Int) - 1))) D.nilp = byteD l[l.length - 1] := by
          rw [e11]; exact getD_mapI (f := byteD) (d := .nilp) (show (((l.length - 1 : Nat) : Int)).toNat < l.length by simp; omega)
        conv => whnf
        simp only [hg]
        conv => whnf
        repeat ((first | (apply guardI; · kernel_rfl) | (apply condT; · assumption) | (apply condF; · assumption) | (apply condNT; · assumption) | (apply condNF; · assumption)); conv => whnf)
        have hlast : l.getD (l.length - 1) 0 = l[l.length - 1] := by rw [List.getD_eq_getElem?_getD, List.getElem?_eq_getElem (by omega)]; rfl
        have big : Int.fdiv (leV l : Int) (2 ^ (min (Int.toNat 63) IntKind.u64.bits)) = ((leV l / 9223372036854775808 : Nat) : Int) := by
          rw [Int.fdiv_eq_ediv_of_nonneg _ (by simp [IntKind.bits])]; simp [IntKind.bits]
        by_cases hz : l[l.length - 1].toNat = 0
        · have hq : decide ((l[l.length - 1].toNat : Int) = 0) = true := by simp [hz]
          have hz' : l[l.length - 1] = 0 := UInt8.toNat_inj.mp hz
          conv => whnf
          repeat ((first | (apply guardI; · kernel_rfl) | (apply condT; · assumption) | (apply condF; · assumption) | (apply condNT; · assumption) | (apply condNF; · assumption)); conv => whnf)
          exact @Eq.mp (Q (.d (int 0)) (rdr rest true)) _ (by kernel_rfl) (hbad (Or.inl ⟨hl0, hlast.trans hz'⟩))
        · have hq : decide ((l[l.length - 1].toNat : Int) = 0) = false := by simp only [decide_eq_false_iff_not]; omega
          have hz' : ¬ l[l.length - 1] = 0 := fun h => hz (by rw [h]; rfl)
          by_cases hbg : 9223372036854775808 ≤ leV l
          · have hb : decide ((0 : Int) < Int.fdiv (leV l : Int) (2 ^ (min (Int.toNat 63) IntKind.u64.bits))) = true := by rw [big, decide_eq_true_iff]; omega
            conv => whnf
            repeat ((first | (apply guardI; · kernel_rfl) | (apply condT; · assumption) | (apply condF; · assumption) | (apply condNT; · assumption) | (apply condNF; · assumption)); conv => whnf)
            exact @Eq.mp (Q (.d (int 0)) (rdr rest true)) _ (by kernel_rfl) (hbad (Or.inr hbg))
          · have hb : decide ((0 : Int) < Int.fdiv (leV l : Int) (2 ^ (min (Int.toNat 63) IntKind.u64.bits))) = false := by rw [big, decide_eq_false_iff_not]; omega
            have hnb : ¬ badNum l := fun h => by
              rcases h with h | h
              · exact hz' (hlast.symm.trans h.2)
              · exact hbg h
            conv => whnf
            repeat ((first | (apply guardI; · kernel_rfl) | (apply condT; · assumption) | (apply condF; · assumption) | (apply condNT; · assumption) | (apply condNF; · assumption)); conv => whnf)
            have e12 : IntKind.i64.wrap (leV l : Int) = (leV l : Int) := by rw [wrapV (by omega)]
            refine @Eq.mp (Q (.d (int (IntKind.i64.wrap (leV l : Int)))) (rdr rest false)) _ (by kernel_rfl) ?_
            rw [e12]
            exact hok hnb
      · have hs : decide ((0 : Int) < IntKind.i64.wrap (c.toNat : Int)) = false := by rw [e3]; simp; omega
        have hl : l = [] := by cases l; rfl; simp at hl0
        have hb : decide ((0 : Int) < Int.fdiv (leV l : Int) (2 ^ (min (Int.toNat 63) IntKind.u64.bits))) = false := by subst hl; kernel_rfl
        conv => whnf
        repeat ((first | (apply guardI; · kernel_rfl) | (apply condT; · assumption) | (apply condF; · assumption) | (apply condNT; · assumption) | (apply condNF; · assumption)); conv => whnf)
        have hnb : ¬ badNum l := by subst hl; decide
        have e12 : IntKind.i64.wrap (leV l : Int) = (leV l : Int) := by subst hl; kernel_rfl
        refine @Eq.mp (Q (.d (int (IntKind.i64.wrap (leV l : Int)))) (rdr rest false)) _ (by kernel_rfl) ?_
        rw [e12]
        exact hok hnb
    · refine Exists.elim hJ (fun j hj => ?_)
      have hst := hj.2.2
      subst hst
      conv => whnf
      repeat ((first | (apply guardI; · kernel_rfl) | (apply condT; · assumption) | (apply condF; · assumption) | (apply condNT; · assumption) | (apply condNF; · assumption)); conv => whnf)
      refine condT (show decide ((0 : Int) ≤ (j : Int)) = true by simp) ?_
      conv => whnf
      refine ⟨by kernel_rfl, ?_⟩
      conv => whnf
      refine ⟨by simp; exact hj.1, ?_⟩
      have hg : (l.map byteD).getD (Int.toNat (j : Int)) D.nilp = byteD l[j] := getD_mapI (f := byteD) (d := .nilp) (show ((j : Int)).toNat < l.length from hj.1)
      conv => whnf
      simp only [hg]
      conv => whnf
      repeat ((first | (apply guardI; · kernel_rfl) | (apply condT; · assumption) | (apply condF; · assumption) | (apply condNT; · assumption) | (apply condNF; · assumption)); conv => whnf)
      have hj1 := hj.1
      refine ⟨j, by have := hj.2.1; omega, j, by omega, rfl, ?_⟩
      have e8 : leV (l.drop j) = l[j].toNat + 256 * leV (l.drop (j + 1)) := leV_drop hj1
      have hlt7 : leV (l.drop (j + 1)) < 72057594037927936 := by
        have h1 := leV_lt (l.drop (j + 1))
        have h2 : (l.drop (j + 1)).length ≤ 7 := by rw [List.length_drop]; omega
        have h3 : (256 : Nat) ^ (l.drop (j + 1)).length ≤ 256 ^ 7 := Nat.pow_le_pow_right (by omega) h2
        omega
      have e9 := or256 hlt7 (l[j].toNat_lt)
      rw [← e8] at e9
      have e10 : IntKind.i64.wrap ((j : Int) - 1) = (j : Int) - 1 := by rw [wrapI (by omega) (by omega)]
      refine Eq.trans (b := st70 rest false (IntKind.u64.wrap (BitVec.ofInt IntKind.u64.bits (IntKind.u64.wrap ((leV (l.drop (j + 1)) : Int) * 2 ^ (min (Int.toNat 8) IntKind.u64.bits))) ||| BitVec.ofInt IntKind.u64.bits (IntKind.u64.wrap ((l[j]).toNat : Int))).toNat) l (IntKind.i64.wrap ((j : Int) - 1))) (by kernel_rfl) ?_
      rw [e10, e9]
  by_cases hbn : badNum l
  · rw [if_pos hbn]
    refine ⟨fun n r h => by simp at h, fun _ => ?_⟩
    rw [show decR (c :: t) = rest by rw [decR_cons, if_neg h8, if_neg hlt, hrest]]
    exact cp30.vev (walk _ (fun _ => ⟨rfl, rfl⟩) (fun h => absurd hbn h))
  · rw [if_neg hbn]
    refine ⟨fun n r h => ?_, fun h => by simp at h⟩
    simp only [if_neg h16] at h
    injection h with h
    injection h with h1 h2
    subst h1 h2
    exact cp30.vev (walk _ (fun h => absurd h hbn) (fun _ => ⟨rfl, rfl⟩))
