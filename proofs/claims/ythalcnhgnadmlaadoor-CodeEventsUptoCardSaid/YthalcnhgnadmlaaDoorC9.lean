/- Bytes: what is written. Conditions: none. -/
import Derived.Test.YthalcnhgnadmlaaDoorC8
set_option maxRecDepth 100000
namespace Go.Proofs.YthalcnhgnadmlaaDoor
open Go Go.Vm

def outS (b : Bs) : Store := [.box [.own 1 (b.map byteD)]]
def encVa (v : Va) : Bs := encI v.k ++ (if v.k = 1 then encI v.n else if v.k = 2 then encTx v.t else [])
def encCo (c : Co) : Bs := encTx c.name ++ encI c.ty
def encRow (r : List Va) : Bs := r.flatMap encVa
def encTb (s : List Co) (r : List (List Va)) : Bs := encI s.length ++ s.flatMap encCo ++ encI r.length ++ r.flatMap encRow
def encPt (p : Pt) : Bs := encTx p.a ++ encI p.i
def encPs (l : List Pt) : Bs := encI l.length ++ l.flatMap encPt
def encB (b : Bool) : Bs := encI (if b then 1 else 0)

theorem i64_nat {n : Nat} (h : n < BIG) : I64 (n : Int) := by
  have h : n < 4611686018427387904 := h
  unfold I64; omega

section
attribute [local irreducible] Int.decLt Int.decLe Int.instDecidableEq IntKind.wrap instDecidableEqList

theorem e16 (n : Int) (hn : I64 n) (b : Bs) (hb : b.length + 9 < BND) : VEv Tryd.prog gl 16 [.ptr 0 0, .d (int n)] (outS b) (.ptr 0 0) (outS (b ++ encI n)) := by
  have hb : b.length + 9 < 70368744177664 := hb
  have hmag := magI_lt hn
  have hlen := leF_len 8 (magI n)
  have hu : IntKind.u64.wrap (magI n : Int) = (magI n : Int) := by unfold IntKind.wrap; simp [IntKind.signed, IntKind.bits]; omega
  unfold I64 at hn
  refine cp16.vev ?_
  conv => whnf
  repeat ((first | (apply guardI; · rfl) | (apply condT; · assumption) | (apply condF; · assumption) | (apply condNT; · assumption) | (apply condNF; · assumption)); conv => whnf)
  first | refine condGF (fun h => ?_) (fun h => ?_) | ((refine condI (fun h => ?_) (fun h => ?_)) <;> (try simp only [cond_true] at h))
  · conv => whnf
    repeat ((first | (apply guardI; · rfl) | (apply condT; · assumption) | (apply condF; · assumption) | (apply condNT; · assumption) | (apply condNF; · assumption)); conv => whnf)
    have h' : n < 0 := by simpa using h
    have hw : IntKind.i64.wrap (-1 - n) = (magI n : Nat) := by
      have : magI n = (-1 - n).toNat := by simp [magI, h']
      rw [this]; unfold IntKind.wrap; simp [IntKind.signed, IntKind.bits]; omega
    have h44 : VEv Tryd.prog gl 44 [.d (.int .u64 (IntKind.u64.wrap (IntKind.i64.wrap (-1 - n)))), .d (int 0)] [] (.d (bs (leF 8 (magI n)))) [] := by
      rw [hw, hu]; exact e44 (magI n) (by omega)
    refine ⟨_, _, h44, ?_⟩
    conv => whnf
    repeat ((first | (apply guardI; · rfl) | (apply condT; · assumption) | (apply condF; · assumption) | (apply condNT; · assumption) | (apply condNF; · assumption)); conv => whnf)
    refine ⟨by simp; omega, ?_⟩
    conv => whnf
    repeat ((first | (apply guardI; · rfl) | (apply condT; · assumption) | (apply condF; · assumption) | (apply condNT; · assumption) | (apply condNF; · assumption)); conv => whnf)
    refine ⟨by simp; omega, ?_⟩
    conv => whnf
    repeat ((first | (apply guardI; · rfl) | (apply condT; · assumption) | (apply condF; · assumption) | (apply condNT; · assumption) | (apply condNF; · assumption)); conv => whnf)
    refine ⟨rfl, show [Ob.box [Val.own 1 ((b.map byteD ++ [D.int .u8 (IntKind.u8.wrap (IntKind.i64.wrap ((((leF 8 (magI n)).map byteD).length : Int) + 16)))]) ++ (leF 8 (magI n)).map byteD)]] = _ from ?_⟩
    have e : IntKind.i64.wrap ((((leF 8 (magI n)).map byteD).length : Int) + 16) = (((leF 8 (magI n)).length + 16 : Nat) : Int) := by
      rw [List.length_map, wrapI (by omega) (by omega)]; omega
    rw [e, byte_wrap]
    simp [outS, encI, h']
  · conv => whnf
    repeat ((first | (apply guardI; · rfl) | (apply condT; · assumption) | (apply condF; · assumption) | (apply condNT; · assumption) | (apply condNF; · assumption)); conv => whnf)
    have h' : ¬ n < 0 := by simpa using h
    have hw : n = (magI n : Nat) := by
      have : magI n = n.toNat := by simp [magI, h']
      rw [this]; omega
    have h44 : VEv Tryd.prog gl 44 [.d (.int .u64 (IntKind.u64.wrap n)), .d (int 0)] [] (.d (bs (leF 8 (magI n)))) [] := by
      have := e44 (magI n) (by omega)
      rw [← hu, ← hw] at this
      exact this
    refine ⟨_, _, h44, ?_⟩
    conv => whnf
    repeat ((first | (apply guardI; · rfl) | (apply condT; · assumption) | (apply condF; · assumption) | (apply condNT; · assumption) | (apply condNF; · assumption)); conv => whnf)
    refine ⟨by simp; omega, ?_⟩
    conv => whnf
    repeat ((first | (apply guardI; · rfl) | (apply condT; · assumption) | (apply condF; · assumption) | (apply condNT; · assumption) | (apply condNF; · assumption)); conv => whnf)
    refine ⟨by simp; omega, ?_⟩
    conv => whnf
    repeat ((first | (apply guardI; · rfl) | (apply condT; · assumption) | (apply condF; · assumption) | (apply condNT; · assumption) | (apply condNF; · assumption)); conv => whnf)
    refine ⟨rfl, show [Ob.box [Val.own 1 ((b.map byteD ++ [D.int .u8 (IntKind.u8.wrap (IntKind.i64.wrap ((((leF 8 (magI n)).map byteD).length : Int) + 0)))]) ++ (leF 8 (magI n)).map byteD)]] = _ from ?_⟩
    have e : IntKind.i64.wrap ((((leF 8 (magI n)).map byteD).length : Int) + 0) = (((leF 8 (magI n)).length + 0 : Nat) : Int) := by
      rw [List.length_map, wrapI (by omega) (by omega)]; omega
    rw [e, byte_wrap]
    simp [outS, encI, h']

theorem e17 (s : Bs) (hs : s.length < SM) (b : Bs) (hb : b.length + 9 + s.length < BND) : VEv Tryd.prog gl 17 [.ptr 0 0, .d (.str s)] (outS b) (.ptr 0 0) (outS (b ++ encTx s)) := by
  have hb : b.length + 9 + s.length < 70368744177664 := hb
  have hl := encI_len s.length
  refine cp17.vev ?_
  conv => whnf
  repeat ((first | (apply guardI; · rfl) | (apply condT; · assumption) | (apply condF; · assumption) | (apply condNT; · assumption) | (apply condNF; · assumption)); conv => whnf)
  refine ⟨_, _, e16 s.length (i64_nat (sm_big hs)) b (by omega), ?_⟩
  conv => whnf
  repeat ((first | (apply guardI; · rfl) | (apply condT; · assumption) | (apply condF; · assumption) | (apply condNT; · assumption) | (apply condNF; · assumption)); conv => whnf)
  refine ⟨by simp; omega, ?_⟩
  conv => whnf
  repeat ((first | (apply guardI; · rfl) | (apply condT; · assumption) | (apply condF; · assumption) | (apply condNT; · assumption) | (apply condNF; · assumption)); conv => whnf)
  refine ⟨rfl, show [Ob.box [Val.own 1 ((b ++ encI s.length).map byteD ++ s.map byteD)]] = _ from ?_⟩
  simp [outS, encTx]

theorem e18 (p : Pt) (hp : p.a.length < SM) (hi : I64 p.i) (b : Bs) (hb : b.length + 18 + p.a.length < BND) : VEv Tryd.prog gl 18 [.ptr 0 0, .d p.d] (outS b) (.tuple []) (outS (b ++ encPt p)) := by
  have hb : b.length + 18 + p.a.length < 70368744177664 := hb
  have hl := encI_len p.a.length
  refine cp18.vev ?_
  conv => whnf
  repeat ((first | (apply guardI; · rfl) | (apply condT; · assumption) | (apply condF; · assumption) | (apply condNT; · assumption) | (apply condNF; · assumption)); conv => whnf)
  refine ⟨_, _, e17 p.a hp b (by omega), ?_⟩
  conv => whnf
  repeat ((first | (apply guardI; · rfl) | (apply condT; · assumption) | (apply condF; · assumption) | (apply condNT; · assumption) | (apply condNF; · assumption)); conv => whnf)
  refine ⟨_, _, e16 p.i hi (b ++ encTx p.a) (by simp [encTx]; omega), ?_⟩
  conv => whnf
  repeat ((first | (apply guardI; · rfl) | (apply condT; · assumption) | (apply condF; · assumption) | (apply condNT; · assumption) | (apply condNF; · assumption)); conv => whnf)
  refine ⟨rfl, show outS (b ++ encTx p.a ++ encI p.i) = _ from ?_⟩
  simp [encPt]

theorem e45 (v : Va) (hk : I64 v.k) (hn : I64 v.n) (ht : v.t.length < SM) (b : Bs) (hb : b.length + 18 + v.t.length < BND) : VEv Tryd.prog gl 45 [.ptr 0 0, .d v.d] (outS b) (.ptr 0 0) (outS (b ++ encVa v)) := by
  have hb : b.length + 18 + v.t.length < 70368744177664 := hb
  have hl := encI_len v.k
  refine cp45.vev ?_
  conv => whnf
  repeat ((first | (apply guardI; · rfl) | (apply condT; · assumption) | (apply condF; · assumption) | (apply condNT; · assumption) | (apply condNF; · assumption)); conv => whnf)
  refine ⟨_, _, e16 v.k hk b (by omega), ?_⟩
  conv => whnf
  repeat ((first | (apply guardI; · rfl) | (apply condT; · assumption) | (apply condF; · assumption) | (apply condNT; · assumption) | (apply condNF; · assumption)); conv => whnf)
  first | refine condGF (fun h => ?_) (fun h => ?_) | ((refine condI (fun h => ?_) (fun h => ?_)) <;> (try simp only [cond_true] at h))
  · conv => whnf
    repeat ((first | (apply guardI; · rfl) | (apply condT; · assumption) | (apply condF; · assumption) | (apply condNT; · assumption) | (apply condNF; · assumption)); conv => whnf)
    refine ⟨_, _, e16 v.n hn (b ++ encI v.k) (by simp; omega), ?_⟩
    conv => whnf
    repeat ((first | (apply guardI; · rfl) | (apply condT; · assumption) | (apply condF; · assumption) | (apply condNT; · assumption) | (apply condNF; · assumption)); conv => whnf)
    refine ⟨rfl, show outS (b ++ encI v.k ++ encI v.n) = _ from ?_⟩
    simp [encVa, of_decide_eq_true h]
  · conv => whnf
    repeat ((first | (apply guardI; · rfl) | (apply condT; · assumption) | (apply condF; · assumption) | (apply condNT; · assumption) | (apply condNF; · assumption)); conv => whnf)
    first | refine condGF (fun h2 => ?_) (fun h2 => ?_) | ((refine condI (fun h2 => ?_) (fun h2 => ?_)) <;> (try simp only [cond_true] at h2))
    · conv => whnf
      repeat ((first | (apply guardI; · rfl) | (apply condT; · assumption) | (apply condF; · assumption) | (apply condNT; · assumption) | (apply condNF; · assumption)); conv => whnf)
      refine ⟨_, _, e17 v.t ht (b ++ encI v.k) (by simp; omega), ?_⟩
      conv => whnf
      repeat ((first | (apply guardI; · rfl) | (apply condT; · assumption) | (apply condF; · assumption) | (apply condNT; · assumption) | (apply condNF; · assumption)); conv => whnf)
      refine ⟨rfl, show outS (b ++ encI v.k ++ encTx v.t) = _ from ?_⟩
      simp [encVa, of_decide_eq_true h2]
    · conv => whnf
      repeat ((first | (apply guardI; · rfl) | (apply condT; · assumption) | (apply condF; · assumption) | (apply condNT; · assumption) | (apply condNF; · assumption)); conv => whnf)
      refine ⟨rfl, show outS (b ++ encI v.k) = _ from ?_⟩
      simp [encVa, of_decide_eq_false h, of_decide_eq_false h2]

theorem e21 (f : Bool) (b : Bs) (hb : b.length + 9 < BND) : VEv Tryd.prog gl 21 [.ptr 0 0, .d (.bool f)] (outS b) (.tuple []) (outS (b ++ encB f)) := by
  refine cp21.vev ?_
  cases f
  · conv => whnf
    repeat ((first | (apply guardI; · rfl) | (apply condT; · assumption) | (apply condF; · assumption) | (apply condNT; · assumption) | (apply condNF; · assumption)); conv => whnf)
    refine ⟨_, _, e16 0 (by unfold I64; omega) b hb, ?_⟩
    conv => whnf
    repeat ((first | (apply guardI; · rfl) | (apply condT; · assumption) | (apply condF; · assumption) | (apply condNT; · assumption) | (apply condNF; · assumption)); conv => whnf)
    first | exact ⟨rfl, rfl⟩ | exact rfl
  · conv => whnf
    repeat ((first | (apply guardI; · rfl) | (apply condT; · assumption) | (apply condF; · assumption) | (apply condNT; · assumption) | (apply condNF; · assumption)); conv => whnf)
    refine ⟨_, _, e16 1 (by unfold I64; omega) b hb, ?_⟩
    conv => whnf
    repeat ((first | (apply guardI; · rfl) | (apply condT; · assumption) | (apply condF; · assumption) | (apply condNT; · assumption) | (apply condNF; · assumption)); conv => whnf)
    first | exact ⟨rfl, rfl⟩ | exact rfl

theorem e22 (b : Bs) (hb : b.length < SM) : VEv Tryd.prog gl 22 [.ptr 0 0] (outS b) (.d (bs b)) (outS b) := by
  refine cp22.vev ?_
  conv => whnf
  repeat ((first | (apply guardI; · rfl) | (apply condT; · assumption) | (apply condF; · assumption) | (apply condNT; · assumption) | (apply condNF; · assumption)); conv => whnf)
  refine ⟨_, _, e46 b hb, ?_⟩
  conv => whnf
  repeat ((first | (apply guardI; · rfl) | (apply condT; · assumption) | (apply condF; · assumption) | (apply condNT; · assumption) | (apply condNF; · assumption)); conv => whnf)
  first | exact ⟨rfl, rfl⟩ | exact rfl

def st20 (l : List Pt) (n : Int) (b : Bs) : St := mkS [(0, .ptr 0 0), (12, .d (psD l)), (13, .d (int l.length)), (14, .d (int n))] (outS b)
theorem e20 (l : List Pt) (hl : l.length < SM) (hp : ∀ p, p ∈ l → p.a.length < SM ∧ I64 p.i) (b : Bs) (hb : b.length + (encPs l).length + 100 < BND) : VEv Tryd.prog gl 20 [.ptr 0 0, .d (psD l)] (outS b) (.tuple []) (outS (b ++ encPs l)) := by
  have hb : b.length + (encPs l).length + 100 < 70368744177664 := hb
  have hll := encI_len l.length
  simp only [encPs, List.length_append] at hb
  have hB : BND = 70368744177664 := rfl
  refine cp20.vev ?_
  conv => whnf
  repeat ((first | (apply guardI; · rfl) | (apply condT; · assumption) | (apply condF; · assumption) | (apply condNT; · assumption) | (apply condNF; · assumption)); conv => whnf)
  have h16 : VEv Tryd.prog gl 16 [.ptr 0 0, .d (int ((l.map Pt.d).length : Nat))] (outS b) (.ptr 0 0) (outS (b ++ encI l.length)) := by
    rw [List.length_map]; exact e16 l.length (i64_nat (sm_big hl)) b (by omega)
  refine ⟨_, _, h16, ?_⟩
  conv => whnf
  repeat ((first | (apply guardI; · rfl) | (apply condT; · assumption) | (apply condF; · assumption) | (apply condNT; · assumption) | (apply condNF; · assumption)); conv => whnf)
  refine ⟨fun n st => ∃ i : Nat, i ≤ l.length ∧ n = l.length - i ∧ st = st20 l i (b ++ encI l.length ++ (l.take i).flatMap encPt), l.length, ⟨0, by omega, rfl, ?_⟩, ?_⟩
  · exact (congrArg (fun k => (mkS [(0, .ptr 0 0), (12, .d (psD l)), (13, .d (int k)), (14, .d (int 0))] (outS (b ++ encI l.length)) : St)) (by simp)).trans (congrArg (st20 l 0) (by simp))
  rintro _ _ ⟨i, hi, rfl, rfl⟩
  conv => whnf
  repeat ((first | (apply guardI; · rfl) | (apply condT; · assumption) | (apply condF; · assumption) | (apply condNT; · assumption) | (apply condNF; · assumption)); conv => whnf)
  first | refine condGF (fun h => ?_) (fun h => ?_) | ((refine condI (fun h => ?_) (fun h => ?_)) <;> (try simp only [cond_true] at h))
  · conv => whnf
    repeat ((first | (apply guardI; · rfl) | (apply condT; · assumption) | (apply condF; · assumption) | (apply condNT; · assumption) | (apply condNF; · assumption)); conv => whnf)
    have h' : i < l.length := by simpa using h
    have hle : ((l.take (i + 1)).flatMap encPt).length ≤ (l.flatMap encPt).length := by
      conv => rhs; rw [← List.take_append_drop (i + 1) l, List.flatMap_append, List.length_append]
      omega
    rw [List.take_succ_eq_append_getElem h', List.flatMap_append, List.length_append] at hle
    simp only [List.flatMap_cons, List.flatMap_nil, List.append_nil] at hle
    refine ⟨by simp [h'], ?_⟩
    rw [getD_map (f := Pt.d) (d := .nilp) h']
    conv => whnf
    repeat ((first | (apply guardI; · rfl) | (apply condT; · assumption) | (apply condF; · assumption) | (apply condNT; · assumption) | (apply condNF; · assumption)); conv => whnf)
    have hp2 := hp _ (List.getElem_mem h')
    have hpl : (encPt l[i]).length ≥ l[i].a.length := by simp [encPt, encTx]; omega
    refine ⟨_, _, e18 l[i] hp2.1 hp2.2 (b ++ encI l.length ++ (l.take i).flatMap encPt) (by simp only [List.length_append]; omega), ?_⟩
    conv => whnf
    repeat ((first | (apply guardI; · rfl) | (apply condT; · assumption) | (apply condF; · assumption) | (apply condNT; · assumption) | (apply condNF; · assumption)); conv => whnf)
    refine ⟨l.length - (i + 1), by omega, i + 1, by omega, rfl, ?_⟩
    have e : b ++ encI l.length ++ (l.take (i + 1)).flatMap encPt = b ++ encI l.length ++ (l.take i).flatMap encPt ++ encPt l[i] := by
      rw [List.take_succ_eq_append_getElem h', List.flatMap_append]; simp
    rw [e]
    exact congrArg (fun k => st20 l k (b ++ encI l.length ++ (l.take i).flatMap encPt ++ encPt l[i])) (wrapB h' (sm_big hl))
  · conv => whnf
    repeat ((first | (apply guardI; · rfl) | (apply condT; · assumption) | (apply condF; · assumption) | (apply condNT; · assumption) | (apply condNF; · assumption)); conv => whnf)
    have h' : i = l.length := by simp at h; omega
    subst h'
    rw [List.take_length]
    refine ⟨rfl, show outS (b ++ encI l.length ++ l.flatMap encPt) = _ from ?_⟩
    simp [encPs]

def st19a (s : List Co) (r : List (List Va)) (n : Int) (b : Bs) : St := mkSB [(0, .ptr 0 0), (3, .lref 3 0), (17, .d (sD s)), (18, .d (int s.length)), (19, .d (int n))] [(3, [.d (sD s), .d (rsD r)])] (outS b)
def st19b (r : List (List Va)) (n : Int) (b : Bs) : St := mkS [(0, .ptr 0 0), (37, .d (rsD r)), (38, .d (int r.length)), (39, .d (int n))] (outS b)
def st19c (r : List (List Va)) (n : Int) (q : List Va) (m : Int) (b : Bs) : St := mkS [(0, .ptr 0 0), (37, .d (rsD r)), (38, .d (int r.length)), (39, .d (int n)), (43, .d (rD q)), (44, .d (int q.length)), (45, .d (int m))] (outS b)

theorem flat_le {α : Type} {f : α → Bs} {l : List α} {i : Nat} (h : i < l.length) : ((l.take i).flatMap f).length + (f l[i]).length ≤ (l.flatMap f).length := by
  have hle : ((l.take (i + 1)).flatMap f).length ≤ (l.flatMap f).length := by
    conv => rhs; rw [← List.take_append_drop (i + 1) l, List.flatMap_append, List.length_append]
    omega
  rw [List.take_succ_eq_append_getElem h, List.flatMap_append, List.length_append] at hle
  simpa using hle
theorem flat_succ {α : Type} {f : α → Bs} {l : List α} {i : Nat} (h : i < l.length) (b : Bs) : b ++ (l.take (i + 1)).flatMap f = b ++ (l.take i).flatMap f ++ f l[i] := by
  rw [List.take_succ_eq_append_getElem h, List.flatMap_append]; simp

set_option maxHeartbeats 1600000 in
theorem e19 (s : List Co) (r : List (List Va)) (hs : s.length < SM) (hsn : ∀ c, c ∈ s → c.name.length < SM ∧ I64 c.ty) (hr : r.length < SM) (hrl : ∀ q, q ∈ r → q.length < SM) (hv : ∀ q, q ∈ r → ∀ v, v ∈ q → I64 v.k ∧ I64 v.n ∧ v.t.length < SM) (b : Bs)
    (hb : b.length + (encTb s r).length + 4294967396 < BND) : VEv Tryd.prog gl 19 [.ptr 0 0, .d (Tb.d ⟨s, r⟩)] (outS b) (.ptr 0 0) (outS (b ++ encTb s r)) := by
  have hb : b.length + (encTb s r).length + 4294967396 < 70368744177664 := hb
  have hB : BND = 70368744177664 := rfl
  have hS : SM = 4294967296 := rfl
  simp only [encTb, List.length_append] at hb
  have hl1 := encI_len s.length
  have hl2 := encI_len r.length
  refine cp19.vev ?_
  conv => whnf
  repeat ((first | (apply guardI; · rfl) | (apply condT; · assumption) | (apply condF; · assumption) | (apply condNT; · assumption) | (apply condNF; · assumption)); conv => whnf)
  have h16 : VEv Tryd.prog gl 16 [.ptr 0 0, .d (int ((s.map Co.d).length : Nat))] (outS b) (.ptr 0 0) (outS (b ++ encI s.length)) := by
    rw [List.length_map]; exact e16 s.length (i64_nat (sm_big hs)) b (by omega)
  refine ⟨_, _, h16, ?_⟩
  conv => whnf
  repeat ((first | (apply guardI; · rfl) | (apply condT; · assumption) | (apply condF; · assumption) | (apply condNT; · assumption) | (apply condNF; · assumption)); conv => whnf)
  refine ⟨fun n st => ∃ i : Nat, i ≤ s.length ∧ n = s.length - i ∧ st = st19a s r i (b ++ encI s.length ++ (s.take i).flatMap encCo), s.length, ⟨0, by omega, rfl, ?_⟩, ?_⟩
  · exact (congrArg (fun k => (mkSB [(0, .ptr 0 0), (3, .lref 3 0), (17, .d (sD s)), (18, .d (int k)), (19, .d (int 0))] [(3, [.d (sD s), .d (rsD r)])] (outS (b ++ encI s.length)) : St)) (by simp)).trans (congrArg (st19a s r 0) (by simp))
  rintro _ _ ⟨i, hi, rfl, rfl⟩
  conv => whnf
  repeat ((first | (apply guardI; · rfl) | (apply condT; · assumption) | (apply condF; · assumption) | (apply condNT; · assumption) | (apply condNF; · assumption)); conv => whnf)
  first | refine condGF (fun h => ?_) (fun h => ?_) | ((refine condI (fun h => ?_) (fun h => ?_)) <;> (try simp only [cond_true] at h))
  · conv => whnf
    repeat ((first | (apply guardI; · rfl) | (apply condT; · assumption) | (apply condF; · assumption) | (apply condNT; · assumption) | (apply condNF; · assumption)); conv => whnf)
    have h' : i < s.length := by simpa using h
    have hle := flat_le (f := encCo) h'
    have hp2 := hsn _ (List.getElem_mem h')
    have hpl : (encCo s[i]).length ≥ s[i].name.length := by simp [encCo, encTx]; omega
    have hpt : (encTx s[i].name).length ≤ 9 + s[i].name.length := by simp only [encTx, List.length_append]; have := encI_len s[i].name.length; omega
    refine ⟨by simp [h'], ?_⟩
    rw [getD_map (f := Co.d) (d := .nilp) h']
    conv => whnf
    repeat ((first | (apply guardI; · rfl) | (apply condT; · assumption) | (apply condF; · assumption) | (apply condNT; · assumption) | (apply condNF; · assumption)); conv => whnf)
    refine ⟨_, _, e17 s[i].name hp2.1 (b ++ encI s.length ++ (s.take i).flatMap encCo) (by simp only [List.length_append]; omega), ?_⟩
    conv => whnf
    repeat ((first | (apply guardI; · rfl) | (apply condT; · assumption) | (apply condF; · assumption) | (apply condNT; · assumption) | (apply condNF; · assumption)); conv => whnf)
    refine ⟨_, _, e16 s[i].ty hp2.2 (b ++ encI s.length ++ (s.take i).flatMap encCo ++ encTx s[i].name) (by simp only [List.length_append]; omega), ?_⟩
    conv => whnf
    repeat ((first | (apply guardI; · rfl) | (apply condT; · assumption) | (apply condF; · assumption) | (apply condNT; · assumption) | (apply condNF; · assumption)); conv => whnf)
    refine ⟨s.length - (i + 1), by omega, i + 1, by omega, rfl, ?_⟩
    rw [flat_succ h']
    have e : b ++ encI s.length ++ (s.take i).flatMap encCo ++ encCo s[i] = b ++ encI s.length ++ (s.take i).flatMap encCo ++ encTx s[i].name ++ encI s[i].ty := by simp [encCo]
    rw [e]
    exact congrArg (fun k => st19a s r k (b ++ encI s.length ++ (s.take i).flatMap encCo ++ encTx s[i].name ++ encI s[i].ty)) (wrapB h' (sm_big hs))
  · conv => whnf
    repeat ((first | (apply guardI; · rfl) | (apply condT; · assumption) | (apply condF; · assumption) | (apply condNT; · assumption) | (apply condNF; · assumption)); conv => whnf)
    have h' : i = s.length := by simp at h; omega
    subst h'
    obtain ⟨b1, hb1⟩ : ∃ b1, b1 = b ++ encI s.length ++ (s.take s.length).flatMap encCo := ⟨_, rfl⟩
    rw [← hb1]
    have hb1l : b1.length = b.length + (encI s.length).length + (s.flatMap encCo).length := by rw [hb1, List.take_length]; simp only [List.length_append]
    have h16 : VEv Tryd.prog gl 16 [.ptr 0 0, .d (int ((r.map rD).length : Nat))] (outS b1) (.ptr 0 0) (outS (b1 ++ encI r.length)) := by
      rw [List.length_map]; exact e16 r.length (i64_nat (sm_big hr)) b1 (by omega)
    refine ⟨_, _, h16, ?_⟩
    conv => whnf
    repeat ((first | (apply guardI; · rfl) | (apply condT; · assumption) | (apply condF; · assumption) | (apply condNT; · assumption) | (apply condNF; · assumption)); conv => whnf)
    refine ⟨fun n st => ∃ i : Nat, i ≤ r.length ∧ n = r.length - i ∧ st = st19b r i (b1 ++ encI r.length ++ (r.take i).flatMap encRow), r.length, ⟨0, by omega, rfl, ?_⟩, ?_⟩
    · exact (congrArg (fun k => (mkS [(0, .ptr 0 0), (37, .d (rsD r)), (38, .d (int k)), (39, .d (int 0))] (outS (b1 ++ encI r.length)) : St)) (by simp)).trans (congrArg (st19b r 0) (by simp))
    rintro _ _ ⟨i, hi, rfl, rfl⟩
    conv => whnf
    repeat ((first | (apply guardI; · rfl) | (apply condT; · assumption) | (apply condF; · assumption) | (apply condNT; · assumption) | (apply condNF; · assumption)); conv => whnf)
    first | refine condGF (fun h2 => ?_) (fun h2 => ?_) | ((refine condI (fun h2 => ?_) (fun h2 => ?_)) <;> (try simp only [cond_true] at h2))
    · conv => whnf
      repeat ((first | (apply guardI; · rfl) | (apply condT; · assumption) | (apply condF; · assumption) | (apply condNT; · assumption) | (apply condNF; · assumption)); conv => whnf)
      have h' : i < r.length := by simpa using h2
      have hle := flat_le (f := encRow) h'
      refine ⟨by simp [h'], ?_⟩
      rw [getD_map (f := rD) (d := .nilp) h']
      conv => whnf
      repeat ((first | (apply guardI; · rfl) | (apply condT; · assumption) | (apply condF; · assumption) | (apply condNT; · assumption) | (apply condNF; · assumption)); conv => whnf)
      have hq := hrl _ (List.getElem_mem h')
      have hqv := hv _ (List.getElem_mem h')
      obtain ⟨q, hqe⟩ : ∃ q, q = r[i] := ⟨_, rfl⟩
      rw [← hqe] at hq hqv hle ⊢
      obtain ⟨b2, hb2⟩ : ∃ b2, b2 = b1 ++ encI r.length ++ (r.take i).flatMap encRow := ⟨_, rfl⟩
      rw [← hb2]
      have hb2l : b2.length = b1.length + (encI r.length).length + ((r.take i).flatMap encRow).length := by rw [hb2]; simp only [List.length_append]
      refine ⟨fun n st => ∃ j : Nat, j ≤ q.length ∧ n = q.length - j ∧ st = st19c r i q j (b2 ++ (q.take j).flatMap encVa), q.length, ⟨0, by omega, rfl, ?_⟩, ?_⟩
      · exact (congrArg (fun k => (mkS [(0, .ptr 0 0), (37, .d (rsD r)), (38, .d (int r.length)), (39, .d (int i)), (43, .d (rD q)), (44, .d (int k)), (45, .d (int 0))] (outS b2) : St)) (by simp)).trans (congrArg (st19c r i q 0) (by simp))
      rintro _ _ ⟨j, hj, rfl, rfl⟩
      conv => whnf
      repeat ((first | (apply guardI; · rfl) | (apply condT; · assumption) | (apply condF; · assumption) | (apply condNT; · assumption) | (apply condNF; · assumption)); conv => whnf)
      first | refine condGF (fun h3 => ?_) (fun h3 => ?_) | ((refine condI (fun h3 => ?_) (fun h3 => ?_)) <;> (try simp only [cond_true] at h3))
      · conv => whnf
        repeat ((first | (apply guardI; · rfl) | (apply condT; · assumption) | (apply condF; · assumption) | (apply condNT; · assumption) | (apply condNF; · assumption)); conv => whnf)
        have h'' : j < q.length := by simpa using h3
        have hle2 := flat_le (f := encVa) h''
        have hrow : (encRow q).length = (q.flatMap encVa).length := rfl
        refine ⟨by simp [h''], ?_⟩
        rw [getD_map (f := Va.d) (d := .nilp) h'']
        conv => whnf
        repeat ((first | (apply guardI; · rfl) | (apply condT; · assumption) | (apply condF; · assumption) | (apply condNT; · assumption) | (apply condNF; · assumption)); conv => whnf)
        have hv2 := hqv _ (List.getElem_mem h'')
        refine ⟨_, _, e45 q[j] hv2.1 hv2.2.1 hv2.2.2 (b2 ++ (q.take j).flatMap encVa) (by simp only [List.length_append]; omega), ?_⟩
        conv => whnf
        repeat ((first | (apply guardI; · rfl) | (apply condT; · assumption) | (apply condF; · assumption) | (apply condNT; · assumption) | (apply condNF; · assumption)); conv => whnf)
        refine ⟨q.length - (j + 1), by omega, j + 1, by omega, rfl, ?_⟩
        rw [flat_succ h'']
        exact congrArg (fun k => st19c r i q k (b2 ++ (q.take j).flatMap encVa ++ encVa q[j])) (wrapB h'' (sm_big hq))
      · conv => whnf
        repeat ((first | (apply guardI; · rfl) | (apply condT; · assumption) | (apply condF; · assumption) | (apply condNT; · assumption) | (apply condNF; · assumption)); conv => whnf)
        have h'' : j = q.length := by simp at h3; omega
        subst h''
        refine ⟨r.length - (i + 1), by omega, i + 1, by omega, rfl, ?_⟩
        rw [flat_succ h', ← hb2, ← hqe, List.take_length]
        exact congrArg (fun k => st19b r k (b2 ++ q.flatMap encVa)) (wrapB h' (sm_big hr))
    · conv => whnf
      repeat ((first | (apply guardI; · rfl) | (apply condT; · assumption) | (apply condF; · assumption) | (apply condNT; · assumption) | (apply condNF; · assumption)); conv => whnf)
      have h' : i = r.length := by simp at h2; omega
      subst h'
      rw [List.take_length]
      refine ⟨rfl, show outS (b1 ++ encI r.length ++ r.flatMap encRow) = _ from ?_⟩
      rw [hb1, List.take_length]
      simp [encTb]

end
end Go.Proofs.YthalcnhgnadmlaaDoor
