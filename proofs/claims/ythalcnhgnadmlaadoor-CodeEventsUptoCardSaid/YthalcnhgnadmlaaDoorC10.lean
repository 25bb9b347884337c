/- Bytes: the document's. Conditions: none. -/
import Derived.Test.YthalcnhgnadmlaaDoorC9
set_option maxRecDepth 100000
namespace Go.Proofs.YthalcnhgnadmlaaDoor
open Go Go.Vm

section
attribute [local irreducible] Int.decLt Int.decLe Int.instDecidableEq IntKind.wrap instDecidableEqList

theorem apG {a b c : Nat} (h : a + b ≤ c) : (Nat.beq 1 1 && Nat.beq 1 1 && Nat.ble (a + b) c) = true := by
  simpa using h

theorem e41 (s : Bs) (hs : s.length < SM) : VEv Tryd.prog gl 41 [.d (.str s)] [] (.d (bs (encTx s))) [] := by
  have hS : s.length < 4294967296 := hs
  have hl := encI_len s.length
  have h37 : VEv Tryd.prog gl 37 [.d (int (s.length : Nat))] [] (.own 1 ((encI s.length).map byteD)) [] := e37 s.length (i64_nat (sm_big hs))
  refine cp41.vev ?_
  conv => whnf
  repeat ((first | (apply guardI; · rfl) | (apply condT; · assumption) | (apply condF; · assumption) | (apply condNT; · assumption) | (apply condNF; · assumption)); conv => whnf)
  refine ⟨_, _, h37, ?_⟩
  conv => whnf
  repeat ((first | (apply guardI; · rfl) | (apply condT; · assumption) | (apply condF; · assumption) | (apply condNT; · assumption) | (apply condNF; · assumption)); conv => whnf)
  refine ⟨by simp; omega, ?_⟩
  conv => whnf
  repeat ((first | (apply guardI; · rfl) | (apply condT; · assumption) | (apply condF; · assumption) | (apply condNT; · assumption) | (apply condNF; · assumption)); conv => whnf)
  refine ⟨show Val.d (.list 1 ((encI s.length).map byteD ++ s.map byteD)) = _ from ?_, rfl⟩
  simp [bs, encTx]

def st40 (l : List Bs) (n : Int) (acc : Bs) : St := mkS [(0, .d (.list 1 (l.map bs))), (3, .own 1 (acc.map byteD)), (4, .d (int n))] []
theorem e40 (l : List Bs) (hl : l.length < SM) (hb : (l.flatMap id).length < BND) : VEv Tryd.prog gl 40 [.d (.list 1 (l.map bs))] [] (.d (bs (l.flatMap id))) [] := by
  have hB : BND = 70368744177664 := rfl
  refine cp40.vev ?_
  conv => whnf
  repeat ((first | (apply guardI; · rfl) | (apply condT; · assumption) | (apply condF; · assumption) | (apply condNT; · assumption) | (apply condNF; · assumption)); conv => whnf)
  refine ⟨fun n st => ∃ i : Nat, i ≤ l.length ∧ n = l.length - i ∧ st = st40 l i ((l.take i).flatMap id), l.length, ⟨0, by omega, rfl, rfl⟩, ?_⟩
  rintro _ _ ⟨i, hi, rfl, rfl⟩
  conv => whnf
  repeat ((first | (apply guardI; · rfl) | (apply condT; · assumption) | (apply condF; · assumption) | (apply condNT; · assumption) | (apply condNF; · assumption)); conv => whnf)
  first | refine condGF (fun h => ?_) (fun h => ?_) | ((refine condI (fun h => ?_) (fun h => ?_)) <;> (try simp only [cond_true] at h))
  · conv => whnf
    repeat ((first | (apply guardI; · rfl) | (apply condT; · assumption) | (apply condF; · assumption) | (apply condNT; · assumption) | (apply condNF; · assumption)); conv => whnf)
    have h' : i < l.length := by simpa using h
    have hle := flat_le (f := id) h'
    simp only [id] at hle
    refine ⟨by simp [h'], ?_⟩
    rw [getD_map (f := bs) (d := .nilp) h']
    conv => whnf
    repeat ((first | (apply guardI; · rfl) | (apply condT; · assumption) | (apply condF; · assumption) | (apply condNT; · assumption) | (apply condNF; · assumption)); conv => whnf)
    refine ⟨by exact apG (by simp only [List.length_map]; omega), ?_⟩
    conv => whnf
    repeat ((first | (apply guardI; · rfl) | (apply condT; · assumption) | (apply condF; · assumption) | (apply condNT; · assumption) | (apply condNF; · assumption)); conv => whnf)
    refine ⟨l.length - (i + 1), by omega, i + 1, by omega, rfl, ?_⟩
    have e : ((l.take i).flatMap id).map byteD ++ (l[i]).map byteD = ((l.take (i + 1)).flatMap id).map byteD := by
      have := flat_succ (f := id) h' []
      simp only [List.nil_append] at this
      rw [this]; simp
    have e2 : st40 l (IntKind.i64.wrap ((i : Int) + 1)) ((l.take (i + 1)).flatMap id) = st40 l ((i + 1 : Nat) : Int) ((l.take (i + 1)).flatMap id) := by rw [wrapB h' (sm_big hl)]
    rw [← e2]
    exact congrArg (fun q => (mkS [(0, .d (.list 1 (l.map bs))), (3, .own 1 q), (4, .d (int (IntKind.i64.wrap ((i : Int) + 1))))] [] : St)) e
  · conv => whnf
    repeat ((first | (apply guardI; · rfl) | (apply condT; · assumption) | (apply condF; · assumption) | (apply condNT; · assumption) | (apply condNF; · assumption)); conv => whnf)
    have h' : i = l.length := by simp at h; omega
    subst h'
    rw [List.take_length]
    exact ⟨rfl, rfl⟩

theorem e38 (p : Pt) (hp : p.a.length < SM) (hi : I64 p.i) : VEv Tryd.prog gl 38 [.d (.str p.a), .d (int p.i)] [] (.d (bs (encPt p))) [] := by
  have hS : p.a.length < 4294967296 := hp
  have hl := encI_len p.a.length
  have hl2 := encI_len p.i
  have h40 := e40 [encTx p.a, encI p.i] (show 2 < 4294967296 by decide) (show _ < 70368744177664 by simp [encTx]; omega)
  have e : [encTx p.a, encI p.i].flatMap id = encPt p := by simp [encPt]
  rw [e] at h40
  refine cp38.vev ?_
  conv => whnf
  repeat ((first | (apply guardI; · rfl) | (apply condT; · assumption) | (apply condF; · assumption) | (apply condNT; · assumption) | (apply condNF; · assumption)); conv => whnf)
  refine ⟨_, _, e41 p.a hp, ?_⟩
  conv => whnf
  repeat ((first | (apply guardI; · rfl) | (apply condT; · assumption) | (apply condF; · assumption) | (apply condNT; · assumption) | (apply condNF; · assumption)); conv => whnf)
  refine ⟨_, _, e37 p.i hi, ?_⟩
  conv => whnf
  repeat ((first | (apply guardI; · rfl) | (apply condT; · assumption) | (apply condF; · assumption) | (apply condNT; · assumption) | (apply condNF; · assumption)); conv => whnf)
  refine ⟨_, _, h40, ?_⟩
  conv => whnf
  repeat ((first | (apply guardI; · rfl) | (apply condT; · assumption) | (apply condF; · assumption) | (apply condNT; · assumption) | (apply condNF; · assumption)); conv => whnf)
  first | exact ⟨rfl, rfl⟩ | exact rfl

theorem e39 (f : Bool) : VEv Tryd.prog gl 39 [.d (.bool f)] [] (.d (bs (encB f))) [] := by
  refine cp39.vev ?_
  cases f
  · conv => whnf
    repeat ((first | (apply guardI; · rfl) | (apply condT; · assumption) | (apply condF; · assumption) | (apply condNT; · assumption) | (apply condNF; · assumption)); conv => whnf)
    refine ⟨_, _, e37 0 (by unfold I64; omega), ?_⟩
    conv => whnf
    repeat ((first | (apply guardI; · rfl) | (apply condT; · assumption) | (apply condF; · assumption) | (apply condNT; · assumption) | (apply condNF; · assumption)); conv => whnf)
    first | exact ⟨rfl, rfl⟩ | exact rfl
  · conv => whnf
    repeat ((first | (apply guardI; · rfl) | (apply condT; · assumption) | (apply condF; · assumption) | (apply condNT; · assumption) | (apply condNF; · assumption)); conv => whnf)
    refine ⟨_, _, e37 1 (by unfold I64; omega), ?_⟩
    conv => whnf
    repeat ((first | (apply guardI; · rfl) | (apply condT; · assumption) | (apply condF; · assumption) | (apply condNT; · assumption) | (apply condNF; · assumption)); conv => whnf)
    first | exact ⟨rfl, rfl⟩ | exact rfl

theorem e73 (v : Va) (hk : I64 v.k) (hn : I64 v.n) (ht : v.t.length < SM) : VEv Tryd.prog gl 73 [.d v.d] [] (.d (bs (encVa v))) [] := by
  have hS : v.t.length < 4294967296 := ht
  have hl := encI_len v.k
  have hl2 := encI_len v.n
  have hl3 := encI_len v.t.length
  refine cp73.vev ?_
  conv => whnf
  repeat ((first | (apply guardI; · rfl) | (apply condT; · assumption) | (apply condF; · assumption) | (apply condNT; · assumption) | (apply condNF; · assumption)); conv => whnf)
  refine ⟨_, _, e37 v.k hk, ?_⟩
  conv => whnf
  repeat ((first | (apply guardI; · rfl) | (apply condT; · assumption) | (apply condF; · assumption) | (apply condNT; · assumption) | (apply condNF; · assumption)); conv => whnf)
  first | refine condGF (fun h => ?_) (fun h => ?_) | ((refine condI (fun h => ?_) (fun h => ?_)) <;> (try simp only [cond_true] at h))
  · conv => whnf
    repeat ((first | (apply guardI; · rfl) | (apply condT; · assumption) | (apply condF; · assumption) | (apply condNT; · assumption) | (apply condNF; · assumption)); conv => whnf)
    refine ⟨_, _, e37 v.n hn, ?_⟩
    conv => whnf
    repeat ((first | (apply guardI; · rfl) | (apply condT; · assumption) | (apply condF; · assumption) | (apply condNT; · assumption) | (apply condNF; · assumption)); conv => whnf)
    refine ⟨by simp; omega, ?_⟩
    conv => whnf
    repeat ((first | (apply guardI; · rfl) | (apply condT; · assumption) | (apply condF; · assumption) | (apply condNT; · assumption) | (apply condNF; · assumption)); conv => whnf)
    refine ⟨show Val.d (.list 1 ((encI v.k).map byteD ++ (encI v.n).map byteD)) = _ from ?_, rfl⟩
    simp [bs, encVa, of_decide_eq_true h]
  · conv => whnf
    repeat ((first | (apply guardI; · rfl) | (apply condT; · assumption) | (apply condF; · assumption) | (apply condNT; · assumption) | (apply condNF; · assumption)); conv => whnf)
    first | refine condGF (fun h2 => ?_) (fun h2 => ?_) | ((refine condI (fun h2 => ?_) (fun h2 => ?_)) <;> (try simp only [cond_true] at h2))
    · conv => whnf
      repeat ((first | (apply guardI; · rfl) | (apply condT; · assumption) | (apply condF; · assumption) | (apply condNT; · assumption) | (apply condNF; · assumption)); conv => whnf)
      refine ⟨_, _, e41 v.t ht, ?_⟩
      conv => whnf
      repeat ((first | (apply guardI; · rfl) | (apply condT; · assumption) | (apply condF; · assumption) | (apply condNT; · assumption) | (apply condNF; · assumption)); conv => whnf)
      refine ⟨by simp [encTx]; omega, ?_⟩
      conv => whnf
      repeat ((first | (apply guardI; · rfl) | (apply condT; · assumption) | (apply condF; · assumption) | (apply condNT; · assumption) | (apply condNF; · assumption)); conv => whnf)
      refine ⟨show Val.d (.list 1 ((encI v.k).map byteD ++ (encTx v.t).map byteD)) = _ from ?_, rfl⟩
      simp [bs, encVa, of_decide_eq_true h2]
    · conv => whnf
      repeat ((first | (apply guardI; · rfl) | (apply condT; · assumption) | (apply condF; · assumption) | (apply condNT; · assumption) | (apply condNF; · assumption)); conv => whnf)
      refine ⟨show Val.d (.list 1 ((encI v.k).map byteD)) = _ from ?_, rfl⟩
      simp [bs, encVa, of_decide_eq_false h, of_decide_eq_false h2]

def st43 (l : List Pt) (n : Int) (acc : Bs) : St := mkS [(3, .own 1 (acc.map byteD)), (9, .d (psD l)), (10, .d (int l.length)), (11, .d (int n))] []
theorem e43 (l : List Pt) (hl : l.length < SM) (hp : ∀ p, p ∈ l → p.a.length < SM ∧ I64 p.i) (hb : (encPs l).length < BND) : VEv Tryd.prog gl 43 [.d (psD l)] [] (.d (bs (encPs l))) [] := by
  have hB : BND = 70368744177664 := rfl
  have hll := encI_len l.length
  have hb2 := hb
  simp only [encPs, List.length_append] at hb2
  have h37 : VEv Tryd.prog gl 37 [.d (int ((l.map Pt.d).length : Nat))] [] (.own 1 ((encI l.length).map byteD)) [] := by
    rw [List.length_map]; exact e37 l.length (i64_nat (sm_big hl))
  refine cp43.vev ?_
  conv => whnf
  repeat ((first | (apply guardI; · rfl) | (apply condT; · assumption) | (apply condF; · assumption) | (apply condNT; · assumption) | (apply condNF; · assumption)); conv => whnf)
  refine ⟨_, _, h37, ?_⟩
  conv => whnf
  repeat ((first | (apply guardI; · rfl) | (apply condT; · assumption) | (apply condF; · assumption) | (apply condNT; · assumption) | (apply condNF; · assumption)); conv => whnf)
  refine ⟨fun n st => ∃ i : Nat, i ≤ l.length ∧ n = l.length - i ∧ st = st43 l i (encI l.length ++ (l.take i).flatMap encPt), l.length, ⟨0, by omega, rfl, ?_⟩, ?_⟩
  · exact (congrArg (fun k => (mkS [(3, .own 1 ((encI l.length).map byteD)), (9, .d (psD l)), (10, .d (int k)), (11, .d (int 0))] [] : St)) (by simp)).trans (congrArg (st43 l 0) (by simp))
  rintro _ _ ⟨i, hi, rfl, rfl⟩
  conv => whnf
  repeat ((first | (apply guardI; · rfl) | (apply condT; · assumption) | (apply condF; · assumption) | (apply condNT; · assumption) | (apply condNF; · assumption)); conv => whnf)
  first | refine condGF (fun h => ?_) (fun h => ?_) | ((refine condI (fun h => ?_) (fun h => ?_)) <;> (try simp only [cond_true] at h))
  · conv => whnf
    repeat ((first | (apply guardI; · rfl) | (apply condT; · assumption) | (apply condF; · assumption) | (apply condNT; · assumption) | (apply condNF; · assumption)); conv => whnf)
    have h' : i < l.length := by simpa using h
    have hle := flat_le (f := encPt) h'
    have hp2 := hp _ (List.getElem_mem h')
    refine ⟨by simp [h'], ?_⟩
    rw [getD_map (f := Pt.d) (d := .nilp) h']
    conv => whnf
    repeat ((first | (apply guardI; · rfl) | (apply condT; · assumption) | (apply condF; · assumption) | (apply condNT; · assumption) | (apply condNF; · assumption)); conv => whnf)
    refine ⟨_, _, e38 l[i] hp2.1 hp2.2, ?_⟩
    conv => whnf
    repeat ((first | (apply guardI; · rfl) | (apply condT; · assumption) | (apply condF; · assumption) | (apply condNT; · assumption) | (apply condNF; · assumption)); conv => whnf)
    refine ⟨by exact apG (by simp only [List.length_map, List.length_append]; omega), ?_⟩
    conv => whnf
    repeat ((first | (apply guardI; · rfl) | (apply condT; · assumption) | (apply condF; · assumption) | (apply condNT; · assumption) | (apply condNF; · assumption)); conv => whnf)
    refine ⟨l.length - (i + 1), by omega, i + 1, by omega, rfl, ?_⟩
    have e : (encI l.length ++ (l.take i).flatMap encPt).map byteD ++ (encPt l[i]).map byteD = (encI l.length ++ (l.take (i + 1)).flatMap encPt).map byteD := by
      rw [flat_succ h']; simp
    have e2 : st43 l (IntKind.i64.wrap ((i : Int) + 1)) (encI l.length ++ (l.take (i + 1)).flatMap encPt) = st43 l ((i + 1 : Nat) : Int) (encI l.length ++ (l.take (i + 1)).flatMap encPt) := by rw [wrapB h' (sm_big hl)]
    rw [← e2]
    exact congrArg (fun q => (mkS [(3, .own 1 q), (9, .d (psD l)), (10, .d (int l.length)), (11, .d (int (IntKind.i64.wrap ((i : Int) + 1))))] [] : St)) e
  · conv => whnf
    repeat ((first | (apply guardI; · rfl) | (apply condT; · assumption) | (apply condF; · assumption) | (apply condNT; · assumption) | (apply condNF; · assumption)); conv => whnf)
    have h' : i = l.length := by simp at h; omega
    subst h'
    rw [List.take_length]
    exact ⟨rfl, rfl⟩

def st61a (s : List Co) (r : List (List Va)) (n : Int) (acc : Bs) : St := mkS [(0, .d (sD s)), (1, .d (rsD r)), (5, .own 1 (acc.map byteD)), (6, .d (int n))] []
def st61b (r : List (List Va)) (n : Int) (acc : Bs) : St := mkS [(1, .d (rsD r)), (5, .own 1 (acc.map byteD)), (7, .d (int n))] []
def st61c (r : List (List Va)) (n m : Int) (acc : Bs) : St := mkS [(1, .d (rsD r)), (5, .own 1 (acc.map byteD)), (7, .d (int n)), (8, .d (int m))] []

set_option maxHeartbeats 1600000 in
theorem e61 (s : List Co) (r : List (List Va)) (hs : s.length < SM) (hsn : ∀ c, c ∈ s → c.name.length < SM ∧ I64 c.ty) (hr : r.length < SM) (hrl : ∀ q, q ∈ r → q.length < SM) (hv : ∀ q, q ∈ r → ∀ v, v ∈ q → I64 v.k ∧ I64 v.n ∧ v.t.length < SM)
    (hb : (encTb s r).length < BND) : VEv Tryd.prog gl 61 [.d (sD s), .d (rsD r)] [] (.d (bs (encTb s r))) [] := by
  have hb2 : (encTb s r).length < 70368744177664 := hb
  have hS : SM = 4294967296 := rfl
  simp only [encTb, List.length_append] at hb2
  have hl1 := encI_len s.length
  have hl2 := encI_len r.length
  refine cp61.vev ?_
  conv => whnf
  repeat ((first | (apply guardI; · rfl) | (apply condT; · assumption) | (apply condF; · assumption) | (apply condNT; · assumption) | (apply condNF; · assumption)); conv => whnf)
  have h37 : VEv Tryd.prog gl 37 [.d (int ((s.map Co.d).length : Nat))] [] (.own 1 ((encI s.length).map byteD)) [] := by
    rw [List.length_map]; exact e37 s.length (i64_nat (sm_big hs))
  refine ⟨_, _, h37, ?_⟩
  conv => whnf
  repeat ((first | (apply guardI; · rfl) | (apply condT; · assumption) | (apply condF; · assumption) | (apply condNT; · assumption) | (apply condNF; · assumption)); conv => whnf)
  refine ⟨fun n st => ∃ i : Nat, i ≤ s.length ∧ n = s.length - i ∧ st = st61a s r i (encI s.length ++ (s.take i).flatMap encCo), s.length, ⟨0, by omega, rfl, ?_⟩, ?_⟩
  · exact congrArg (st61a s r 0) (by simp)
  rintro _ _ ⟨i, hi, rfl, rfl⟩
  conv => whnf
  repeat ((first | (apply guardI; · rfl) | (apply condT; · assumption) | (apply condF; · assumption) | (apply condNT; · assumption) | (apply condNF; · assumption)); conv => whnf)
  first | refine condGF (fun h => ?_) (fun h => ?_) | ((refine condI (fun h => ?_) (fun h => ?_)) <;> (try simp only [cond_true] at h))
  · conv => whnf
    repeat ((first | (apply guardI; · rfl) | (apply condT; · assumption) | (apply condF; · assumption) | (apply condNT; · assumption) | (apply condNF; · assumption)); conv => whnf)
    have h' : i < s.length := by simpa using h
    have hle := flat_le (f := encCo) h'
    have hp2 := hsn _ (List.getElem_mem h')
    have hco : (encCo s[i]).length = (encTx s[i].name).length + (encI s[i].ty).length := by simp only [encCo, List.length_append]
    refine ⟨by simp [h'], ?_⟩
    rw [getD_map (f := Co.d) (d := .nilp) h']
    conv => whnf
    repeat ((first | (apply guardI; · rfl) | (apply condT; · assumption) | (apply condF; · assumption) | (apply condNT; · assumption) | (apply condNF; · assumption)); conv => whnf)
    refine ⟨_, _, e41 s[i].name hp2.1, ?_⟩
    conv => whnf
    repeat ((first | (apply guardI; · rfl) | (apply condT; · assumption) | (apply condF; · assumption) | (apply condNT; · assumption) | (apply condNF; · assumption)); conv => whnf)
    refine ⟨by exact apG (by simp only [List.length_map, List.length_append]; omega), ?_⟩
    conv => whnf
    repeat ((first | (apply guardI; · rfl) | (apply condT; · assumption) | (apply condF; · assumption) | (apply condNT; · assumption) | (apply condNF; · assumption)); conv => whnf)
    refine ⟨by simp [h'], ?_⟩
    rw [getD_map (f := Co.d) (d := .nilp) h']
    conv => whnf
    repeat ((first | (apply guardI; · rfl) | (apply condT; · assumption) | (apply condF; · assumption) | (apply condNT; · assumption) | (apply condNF; · assumption)); conv => whnf)
    refine ⟨_, _, e37 s[i].ty hp2.2, ?_⟩
    conv => whnf
    repeat ((first | (apply guardI; · rfl) | (apply condT; · assumption) | (apply condF; · assumption) | (apply condNT; · assumption) | (apply condNF; · assumption)); conv => whnf)
    refine ⟨by exact apG (by simp only [List.length_map, List.length_append]; omega), ?_⟩
    conv => whnf
    repeat ((first | (apply guardI; · rfl) | (apply condT; · assumption) | (apply condF; · assumption) | (apply condNT; · assumption) | (apply condNF; · assumption)); conv => whnf)
    refine ⟨s.length - (i + 1), by omega, i + 1, by omega, rfl, ?_⟩
    have e : (encI s.length ++ (s.take i).flatMap encCo).map byteD ++ (encTx s[i].name).map byteD ++ (encI s[i].ty).map byteD = (encI s.length ++ (s.take (i + 1)).flatMap encCo).map byteD := by
      rw [flat_succ h']; simp [encCo]
    have e2 : st61a s r (IntKind.i64.wrap ((i : Int) + 1)) (encI s.length ++ (s.take (i + 1)).flatMap encCo) = st61a s r ((i + 1 : Nat) : Int) (encI s.length ++ (s.take (i + 1)).flatMap encCo) := by rw [wrapB h' (sm_big hs)]
    rw [← e2]
    exact congrArg (fun q => (mkS [(0, .d (sD s)), (1, .d (rsD r)), (5, .own 1 q), (6, .d (int (IntKind.i64.wrap ((i : Int) + 1))))] [] : St)) e
  · conv => whnf
    repeat ((first | (apply guardI; · rfl) | (apply condT; · assumption) | (apply condF; · assumption) | (apply condNT; · assumption) | (apply condNF; · assumption)); conv => whnf)
    have h' : i = s.length := by simp at h; omega
    subst h'
    obtain ⟨b1, hb1⟩ : ∃ b1, b1 = encI s.length ++ (s.take s.length).flatMap encCo := ⟨_, rfl⟩
    rw [← hb1]
    have hb1l : b1.length = (encI s.length).length + (s.flatMap encCo).length := by rw [hb1, List.take_length]; simp only [List.length_append]
    have h37 : VEv Tryd.prog gl 37 [.d (int ((r.map rD).length : Nat))] [] (.own 1 ((encI r.length).map byteD)) [] := by
      rw [List.length_map]; exact e37 r.length (i64_nat (sm_big hr))
    refine ⟨_, _, h37, ?_⟩
    conv => whnf
    repeat ((first | (apply guardI; · rfl) | (apply condT; · assumption) | (apply condF; · assumption) | (apply condNT; · assumption) | (apply condNF; · assumption)); conv => whnf)
    refine ⟨by exact apG (by simp only [List.length_map]; omega), ?_⟩
    conv => whnf
    repeat ((first | (apply guardI; · rfl) | (apply condT; · assumption) | (apply condF; · assumption) | (apply condNT; · assumption) | (apply condNF; · assumption)); conv => whnf)
    refine ⟨fun n st => ∃ i : Nat, i ≤ r.length ∧ n = r.length - i ∧ st = st61b r i (b1 ++ encI r.length ++ (r.take i).flatMap encRow), r.length, ⟨0, by omega, rfl, ?_⟩, ?_⟩
    · exact congrArg (fun q => (mkS [(1, .d (rsD r)), (5, .own 1 q), (7, .d (int 0))] [] : St)) (show b1.map byteD ++ (encI r.length).map byteD = (b1 ++ encI r.length ++ (r.take 0).flatMap encRow).map byteD by simp)
    rintro _ _ ⟨i, hi, rfl, rfl⟩
    conv => whnf
    repeat ((first | (apply guardI; · rfl) | (apply condT; · assumption) | (apply condF; · assumption) | (apply condNT; · assumption) | (apply condNF; · assumption)); conv => whnf)
    first | refine condGF (fun h2 => ?_) (fun h2 => ?_) | ((refine condI (fun h2 => ?_) (fun h2 => ?_)) <;> (try simp only [cond_true] at h2))
    · conv => whnf
      repeat ((first | (apply guardI; · rfl) | (apply condT; · assumption) | (apply condF; · assumption) | (apply condNT; · assumption) | (apply condNF; · assumption)); conv => whnf)
      have h' : i < r.length := by simpa using h2
      have hle := flat_le (f := encRow) h'
      have hq := hrl _ (List.getElem_mem h')
      have hqv := hv _ (List.getElem_mem h')
      obtain ⟨q, hqe⟩ : ∃ q, q = r[i] := ⟨_, rfl⟩
      rw [← hqe] at hq hqv hle
      obtain ⟨b2, hb2e⟩ : ∃ b2, b2 = b1 ++ encI r.length ++ (r.take i).flatMap encRow := ⟨_, rfl⟩
      rw [← hb2e]
      have hb2l : b2.length = b1.length + (encI r.length).length + ((r.take i).flatMap encRow).length := by rw [hb2e]; simp only [List.length_append]
      refine ⟨fun n st => ∃ j : Nat, j ≤ q.length ∧ n = q.length - j ∧ st = st61c r i j (b2 ++ (q.take j).flatMap encVa), q.length, ⟨0, by omega, rfl, ?_⟩, ?_⟩
      · exact congrArg (st61c r i 0) (by simp)
      rintro _ _ ⟨j, hj, rfl, rfl⟩
      conv => whnf
      repeat ((first | (apply guardI; · rfl) | (apply condT; · assumption) | (apply condF; · assumption) | (apply condNT; · assumption) | (apply condNF; · assumption)); conv => whnf)
      refine ⟨by simp [h'], ?_⟩
      rw [getD_map (f := rD) (d := .nilp) h', ← hqe]
      conv => whnf
      repeat ((first | (apply guardI; · rfl) | (apply condT; · assumption) | (apply condF; · assumption) | (apply condNT; · assumption) | (apply condNF; · assumption)); conv => whnf)
      first | refine condGF (fun h3 => ?_) (fun h3 => ?_) | ((refine condI (fun h3 => ?_) (fun h3 => ?_)) <;> (try simp only [cond_true] at h3))
      · conv => whnf
        repeat ((first | (apply guardI; · rfl) | (apply condT; · assumption) | (apply condF; · assumption) | (apply condNT; · assumption) | (apply condNF; · assumption)); conv => whnf)
        have h'' : j < q.length := by simpa [rD] using h3
        have hle2 := flat_le (f := encVa) h''
        have hrow : (encRow q).length = (q.flatMap encVa).length := rfl
        refine ⟨by simp [h'], ?_⟩
        rw [getD_map (f := rD) (d := .nilp) h', ← hqe]
        conv => whnf
        repeat ((first | (apply guardI; · rfl) | (apply condT; · assumption) | (apply condF; · assumption) | (apply condNT; · assumption) | (apply condNF; · assumption)); conv => whnf)
        refine ⟨by simp [h''], ?_⟩
        rw [getD_map (f := Va.d) (d := .nilp) h'']
        conv => whnf
        repeat ((first | (apply guardI; · rfl) | (apply condT; · assumption) | (apply condF; · assumption) | (apply condNT; · assumption) | (apply condNF; · assumption)); conv => whnf)
        have hv2 := hqv _ (List.getElem_mem h'')
        refine ⟨_, _, e73 q[j] hv2.1 hv2.2.1 hv2.2.2, ?_⟩
        conv => whnf
        repeat ((first | (apply guardI; · rfl) | (apply condT; · assumption) | (apply condF; · assumption) | (apply condNT; · assumption) | (apply condNF; · assumption)); conv => whnf)
        refine ⟨by exact apG (by simp only [List.length_map, List.length_append]; omega), ?_⟩
        conv => whnf
        repeat ((first | (apply guardI; · rfl) | (apply condT; · assumption) | (apply condF; · assumption) | (apply condNT; · assumption) | (apply condNF; · assumption)); conv => whnf)
        refine ⟨q.length - (j + 1), by omega, j + 1, by omega, rfl, ?_⟩
        have e : (b2 ++ (q.take j).flatMap encVa).map byteD ++ (encVa q[j]).map byteD = (b2 ++ (q.take (j + 1)).flatMap encVa).map byteD := by
          rw [flat_succ h'']; simp
        have e2 : st61c r i (IntKind.i64.wrap ((j : Int) + 1)) (b2 ++ (q.take (j + 1)).flatMap encVa) = st61c r i ((j + 1 : Nat) : Int) (b2 ++ (q.take (j + 1)).flatMap encVa) := by rw [wrapB h'' (sm_big hq)]
        rw [← e2]
        exact congrArg (fun q => (mkS [(1, .d (rsD r)), (5, .own 1 q), (7, .d (int i)), (8, .d (int (IntKind.i64.wrap ((j : Int) + 1))))] [] : St)) e
      · conv => whnf
        repeat ((first | (apply guardI; · rfl) | (apply condT; · assumption) | (apply condF; · assumption) | (apply condNT; · assumption) | (apply condNF; · assumption)); conv => whnf)
        have h'' : j = q.length := by simp [rD] at h3; omega
        subst h''
        refine ⟨r.length - (i + 1), by omega, i + 1, by omega, rfl, ?_⟩
        rw [flat_succ h', ← hb2e, ← hqe, List.take_length]
        exact congrArg (fun k => st61b r k (b2 ++ q.flatMap encVa)) (wrapB h' (sm_big hr))
    · conv => whnf
      repeat ((first | (apply guardI; · rfl) | (apply condT; · assumption) | (apply condF; · assumption) | (apply condNT; · assumption) | (apply condNF; · assumption)); conv => whnf)
      have h' : i = r.length := by simp at h2; omega
      subst h'
      rw [List.take_length]
      refine ⟨show Val.d (bs (b1 ++ encI r.length ++ r.flatMap encRow)) = _ from ?_, rfl⟩
      rw [hb1, List.take_length]
      simp [encTb]

end
end Go.Proofs.YthalcnhgnadmlaaDoor
