/- Bytes: of events. Conditions: none. -/
import Derived.Test.YthalcnhgnadmlaaDoorC10
set_option maxRecDepth 100000
namespace Go.Proofs.YthalcnhgnadmlaaDoor
open Go Go.Vm

section
attribute [local irreducible] Int.decLt Int.decLe Int.instDecidableEq IntKind.wrap instDecidableEqList

def st42a (s : List Co) (r : List (List Va)) (n : Int) (acc : List D) : St := mkSB [(1, .lref 1 0), (3, .own 2 acc), (13, .d (sD s)), (14, .d (int s.length)), (15, .d (int n))] [(1, [.d (sD s), .d (rsD r)])] []
def st42b (s r : List D) (r0 : List (List Va)) (n : Int) : St := mkS [(3, .own 2 s), (6, .own 1 r), (29, .d (rsD r0)), (30, .d (int r0.length)), (31, .d (int n))] []
def st42c (s r : List D) (r0 : List (List Va)) (n : Int) (acc : List D) (q : List Va) (m : Int) : St := mkS [(3, .own 2 s), (6, .own 1 r), (9, .own 3 acc), (29, .d (rsD r0)), (30, .d (int r0.length)), (31, .d (int n)), (35, .d (rD q)), (36, .d (int q.length)), (37, .d (int m))] []

theorem map_succ {α : Type} {f : α → D} {l : List α} {i : Nat} (h : i < l.length) : (l.take i).map f ++ [f l[i]] = (l.take (i + 1)).map f := by
  rw [List.take_succ_eq_append_getElem h, List.map_append]; rfl

set_option maxHeartbeats 1600000 in
theorem e42 (s : List Co) (r : List (List Va)) (hs : s.length < SM) (hsn : ∀ c, c ∈ s → c.name.length < SM ∧ I64 c.ty) (hr : r.length < SM) (hrl : ∀ q, q ∈ r → q.length < SM) (hv : ∀ q, q ∈ r → ∀ v, v ∈ q → I64 v.k ∧ I64 v.n ∧ v.t.length < SM)
    (hb : (encTb s r).length < BND) : VEv Tryd.prog gl 42 [.d (Tb.d ⟨s, r⟩)] [] (.d (bs (encTb s r))) [] := by
  have hS1 : s.length < 4294967296 := hs
  have hS2 : r.length < 4294967296 := hr
  refine cp42.vev ?_
  conv => whnf
  repeat ((first | (apply guardI; · rfl) | (apply condT; · assumption) | (apply condF; · assumption) | (apply condNT; · assumption) | (apply condNF; · assumption)); conv => whnf)
  refine ⟨fun n st => ∃ i : Nat, i ≤ s.length ∧ n = s.length - i ∧ st = st42a s r i ((s.take i).map Co.d), s.length, ⟨0, by omega, rfl, ?_⟩, ?_⟩
  · exact congrArg (fun k => (mkSB [(1, .lref 1 0), (3, .own 2 []), (13, .d (sD s)), (14, .d (int k)), (15, .d (int 0))] [(1, [.d (sD s), .d (rsD r)])] [] : St)) (by simp)
  rintro _ _ ⟨i, hi, rfl, rfl⟩
  conv => whnf
  repeat ((first | (apply guardI; · rfl) | (apply condT; · assumption) | (apply condF; · assumption) | (apply condNT; · assumption) | (apply condNF; · assumption)); conv => whnf)
  first | refine condGF (fun h => ?_) (fun h => ?_) | ((refine condI (fun h => ?_) (fun h => ?_)) <;> (try simp only [cond_true] at h))
  · conv => whnf
    repeat ((first | (apply guardI; · rfl) | (apply condT; · assumption) | (apply condF; · assumption) | (apply condNT; · assumption) | (apply condNF; · assumption)); conv => whnf)
    have h' : i < s.length := by simpa using h
    refine ⟨by simp [h'], ?_⟩
    rw [getD_map (f := Co.d) (d := .nilp) h']
    conv => whnf
    repeat ((first | (apply guardI; · rfl) | (apply condT; · assumption) | (apply condF; · assumption) | (apply condNT; · assumption) | (apply condNF; · assumption)); conv => whnf)
    refine ⟨by simp; omega, ?_⟩
    conv => whnf
    repeat ((first | (apply guardI; · rfl) | (apply condT; · assumption) | (apply condF; · assumption) | (apply condNT; · assumption) | (apply condNF; · assumption)); conv => whnf)
    refine ⟨s.length - (i + 1), by omega, i + 1, by omega, rfl, ?_⟩
    rw [← map_succ h']
    exact congrArg (fun k => st42a s r k ((s.take i).map Co.d ++ [Co.d s[i]])) (wrapB h' (sm_big hs))
  · conv => whnf
    repeat ((first | (apply guardI; · rfl) | (apply condT; · assumption) | (apply condF; · assumption) | (apply condNT; · assumption) | (apply condNF; · assumption)); conv => whnf)
    have h' : i = s.length := by simp at h; omega
    subst h'
    rw [List.take_length]
    refine ⟨fun n st => ∃ i : Nat, i ≤ r.length ∧ n = r.length - i ∧ st = st42b (s.map Co.d) ((r.take i).map rD) r i, r.length, ⟨0, by omega, rfl, ?_⟩, ?_⟩
    · exact congrArg (fun k => (mkS [(3, .own 2 (s.map Co.d)), (6, .own 1 []), (29, .d (rsD r)), (30, .d (int k)), (31, .d (int 0))] [] : St)) (by simp)
    rintro _ _ ⟨i, hi, rfl, rfl⟩
    conv => whnf
    repeat ((first | (apply guardI; · rfl) | (apply condT; · assumption) | (apply condF; · assumption) | (apply condNT; · assumption) | (apply condNF; · assumption)); conv => whnf)
    first | refine condGF (fun h2 => ?_) (fun h2 => ?_) | ((refine condI (fun h2 => ?_) (fun h2 => ?_)) <;> (try simp only [cond_true] at h2))
    · conv => whnf
      repeat ((first | (apply guardI; · rfl) | (apply condT; · assumption) | (apply condF; · assumption) | (apply condNT; · assumption) | (apply condNF; · assumption)); conv => whnf)
      have h' : i < r.length := by simpa using h2
      refine ⟨by simp [h'], ?_⟩
      rw [getD_map (f := rD) (d := .nilp) h']
      conv => whnf
      repeat ((first | (apply guardI; · rfl) | (apply condT; · assumption) | (apply condF; · assumption) | (apply condNT; · assumption) | (apply condNF; · assumption)); conv => whnf)
      have hq := hrl _ (List.getElem_mem h')
      obtain ⟨q, hqe⟩ : ∃ q, q = r[i] := ⟨_, rfl⟩
      rw [← hqe] at hq ⊢
      have hq' : q.length < 4294967296 := hq
      refine ⟨fun n st => ∃ j : Nat, j ≤ q.length ∧ n = q.length - j ∧ st = st42c (s.map Co.d) ((r.take i).map rD) r i ((q.take j).map Va.d) q j, q.length, ⟨0, by omega, rfl, ?_⟩, ?_⟩
      · exact congrArg (fun k => (mkS [(3, .own 2 (s.map Co.d)), (6, .own 1 ((r.take i).map rD)), (9, .own 3 []), (29, .d (rsD r)), (30, .d (int r.length)), (31, .d (int i)), (35, .d (rD q)), (36, .d (int k)), (37, .d (int 0))] [] : St)) (by simp)
      rintro _ _ ⟨j, hj, rfl, rfl⟩
      conv => whnf
      repeat ((first | (apply guardI; · rfl) | (apply condT; · assumption) | (apply condF; · assumption) | (apply condNT; · assumption) | (apply condNF; · assumption)); conv => whnf)
      first | refine condGF (fun h3 => ?_) (fun h3 => ?_) | ((refine condI (fun h3 => ?_) (fun h3 => ?_)) <;> (try simp only [cond_true] at h3))
      · conv => whnf
        repeat ((first | (apply guardI; · rfl) | (apply condT; · assumption) | (apply condF; · assumption) | (apply condNT; · assumption) | (apply condNF; · assumption)); conv => whnf)
        have h'' : j < q.length := by simpa using h3
        refine ⟨by simp [h''], ?_⟩
        rw [getD_map (f := Va.d) (d := .nilp) h'']
        conv => whnf
        repeat ((first | (apply guardI; · rfl) | (apply condT; · assumption) | (apply condF; · assumption) | (apply condNT; · assumption) | (apply condNF; · assumption)); conv => whnf)
        refine ⟨by simp; omega, ?_⟩
        conv => whnf
        repeat ((first | (apply guardI; · rfl) | (apply condT; · assumption) | (apply condF; · assumption) | (apply condNT; · assumption) | (apply condNF; · assumption)); conv => whnf)
        refine ⟨q.length - (j + 1), by omega, j + 1, by omega, rfl, ?_⟩
        rw [← map_succ h'']
        exact congrArg (fun k => st42c (s.map Co.d) ((r.take i).map rD) r i ((q.take j).map Va.d ++ [Va.d q[j]]) q k) (wrapB h'' (sm_big hq))
      · conv => whnf
        repeat ((first | (apply guardI; · rfl) | (apply condT; · assumption) | (apply condF; · assumption) | (apply condNT; · assumption) | (apply condNF; · assumption)); conv => whnf)
        have h'' : j = q.length := by simp at h3; omega
        subst h''
        rw [List.take_length]
        refine ⟨by simp; omega, ?_⟩
        conv => whnf
        repeat ((first | (apply guardI; · rfl) | (apply condT; · assumption) | (apply condF; · assumption) | (apply condNT; · assumption) | (apply condNF; · assumption)); conv => whnf)
        refine ⟨r.length - (i + 1), by omega, i + 1, by omega, rfl, ?_⟩
        rw [← map_succ h', ← hqe]
        exact congrArg (fun k => st42b (s.map Co.d) ((r.take i).map rD ++ [rD q]) r k) (wrapB h' (sm_big hr))
    · conv => whnf
      repeat ((first | (apply guardI; · rfl) | (apply condT; · assumption) | (apply condF; · assumption) | (apply condNT; · assumption) | (apply condNF; · assumption)); conv => whnf)
      have h' : i = r.length := by simp at h2; omega
      subst h'
      rw [List.take_length]
      refine ⟨_, _, e61 s r hs hsn hr hrl hv hb, ?_⟩
      conv => whnf
      repeat ((first | (apply guardI; · rfl) | (apply condT; · assumption) | (apply condF; · assumption) | (apply condNT; · assumption) | (apply condNF; · assumption)); conv => whnf)
      first | exact ⟨rfl, rfl⟩ | exact rfl
end

def encEv (e : Ev) : Bs := encI e.k ++ (
  if e.k = 1 then encTx e.text
  else if e.k = 2 then encPt ⟨e.pa, e.pi⟩ ++ encTb e.s e.r
  else if e.k = 3 then encI e.n
  else if e.k = 4 then encTx e.text ++ encI e.n ++ encPs e.ps ++ encB e.flag
  else if e.k = 5 then encPs e.ps ++ encB e.flag
  else if e.k = 6 then encI e.id
  else if e.k = 7 then encPt ⟨e.pa, e.pi⟩
  else if e.k = 8 then encI e.id ++ encTb e.s e.r
  else if e.k = 9 then encI e.id ++ encI e.n ++ encI e.err ++ encB e.flag
  else if e.k = 10 then encI e.id
  else if e.k = 11 then encB e.flag
  else [])

/-- Numbers are numbers. -/
structure EvR (e : Ev) : Prop where
  k : I64 e.k
  id : I64 e.id
  n : I64 e.n
  pi : I64 e.pi
  err : I64 e.err
  ps : ∀ p, p ∈ e.ps → I64 p.i
  s : ∀ c, c ∈ e.s → I64 c.ty
  r : ∀ q, q ∈ e.r → ∀ v, v ∈ q → I64 v.k ∧ I64 v.n

theorem pt_ok {e : Ev} (ho : EvOk e) (hr : EvR e) : ∀ p, p ∈ e.ps → p.a.length < SM ∧ I64 p.i := fun p hp => ⟨ho.pas p hp, hr.ps p hp⟩
theorem co_ok {e : Ev} (ho : EvOk e) (hr : EvR e) : ∀ c, c ∈ e.s → c.name.length < SM ∧ I64 c.ty := fun c hc => ⟨ho.ss c hc, hr.s c hc⟩
theorem va_ok {e : Ev} (ho : EvOk e) (hr : EvR e) : ∀ q, q ∈ e.r → ∀ v, v ∈ q → I64 v.k ∧ I64 v.n ∧ v.t.length < SM := fun q hq v hv => ⟨(hr.r q hq v hv).1, (hr.r q hq v hv).2, ho.rt q hq v hv⟩

set_option maxHeartbeats 4000000 in
theorem e15 (e : Ev) (ho : EvOk e) (hr : EvR e) (hk : 1 ≤ e.k ∧ e.k ≤ 13) (hb : (encEv e).length < BND) : VEv Tryd.prog gl 15 [.d e.d] [] (.d (bs (encEv e))) [] := by
  have h43 : (encPs e.ps).length < BND → VEv Tryd.prog gl 43 [.d (psD e.ps)] [] (.d (bs (encPs e.ps))) [] := fun h => e43 e.ps ho.ps (pt_ok ho hr) h
  have h42 : (encTb e.s e.r).length < BND → VEv Tryd.prog gl 42 [.d (Tb.d ⟨e.s, e.r⟩)] [] (.d (bs (encTb e.s e.r))) [] := fun h => e42 e.s e.r ho.s (co_ok ho hr) ho.r ho.rr (va_ok ho hr) h
  have h37k := e37 e.k hr.k
  have h37i := e37 e.id hr.id
  have h37n := e37 e.n hr.n
  have h37e := e37 e.err hr.err
  have h38 := e38 ⟨e.pa, e.pi⟩ ho.pa hr.pi
  have h39 := e39 e.flag
  have h41 := e41 e.text ho.text
  obtain ⟨k, id, n, text, pa, pi, ps, s, r, err, flag⟩ := e
  clear ho hr
  have hkk : k = 1 ∨ k = 2 ∨ k = 3 ∨ k = 4 ∨ k = 5 ∨ k = 6 ∨ k = 7 ∨ k = 8 ∨ k = 9 ∨ k = 10 ∨ k = 11 ∨ k = 12 ∨ k = 13 := by simp only at hk; omega
  clear hk
  rcases hkk with rfl | rfl | rfl | rfl | rfl | rfl | rfl | rfl | rfl | rfl | rfl | rfl | rfl
  · have he : (encEv ⟨1, id, n, text, pa, pi, ps, s, r, err, flag⟩) = encI 1 ++ (encTx text) := rfl
    rw [he] at hb ⊢
    have h40 := e40 [encI 1, encTx text] (show 2 < 4294967296 by decide)
    have e : [encI 1, encTx text].flatMap _root_.id = encI 1 ++ (encTx text) := by simp
    rw [e] at h40
    have h40 := h40 hb
    simp only [List.length_append] at hb
    clear e hb he
    refine cp15.vev ?_
    conv => whnf
    repeat ((first | (apply guardI; · kernel_rfl) | (apply condT; · assumption) | (apply condF; · assumption) | (apply condNT; · assumption) | (apply condNF; · assumption)); conv => whnf)
    refine ⟨_, _, h37k, ?_⟩
    conv => whnf
    repeat ((first | (apply guardI; · kernel_rfl) | (apply condT; · assumption) | (apply condF; · assumption) | (apply condNT; · assumption) | (apply condNF; · assumption)); conv => whnf)
    refine ⟨_, _, h38, ?_⟩
    conv => whnf
    repeat ((first | (apply guardI; · kernel_rfl) | (apply condT; · assumption) | (apply condF; · assumption) | (apply condNT; · assumption) | (apply condNF; · assumption)); conv => whnf)
    refine ⟨_, _, h39, ?_⟩
    conv => whnf
    repeat ((first | (apply guardI; · kernel_rfl) | (apply condT; · assumption) | (apply condF; · assumption) | (apply condNT; · assumption) | (apply condNF; · assumption)); conv => whnf)
    refine ⟨_, _, h41, ?_⟩
    conv => whnf
    repeat ((first | (apply guardI; · kernel_rfl) | (apply condT; · assumption) | (apply condF; · assumption) | (apply condNT; · assumption) | (apply condNF; · assumption)); conv => whnf)
    refine ⟨_, _, h40, ?_⟩
    conv => whnf
    repeat ((first | (apply guardI; · kernel_rfl) | (apply condT; · assumption) | (apply condF; · assumption) | (apply condNT; · assumption) | (apply condNF; · assumption)); conv => whnf)
    exact ⟨by kernel_rfl, by kernel_rfl⟩
  · have he : (encEv ⟨2, id, n, text, pa, pi, ps, s, r, err, flag⟩) = encI 2 ++ (encPt ⟨pa, pi⟩ ++ encTb s r) := rfl
    rw [he] at hb ⊢
    have h40 := e40 [encI 2, encPt ⟨pa, pi⟩, encTb s r] (show 3 < 4294967296 by decide)
    have e : [encI 2, encPt ⟨pa, pi⟩, encTb s r].flatMap _root_.id = encI 2 ++ (encPt ⟨pa, pi⟩ ++ encTb s r) := by simp
    rw [e] at h40
    have h40 := h40 hb
    simp only [List.length_append] at hb
    have h42 := h42 (by show (encTb s r).length < BND; omega)
    clear e hb he
    refine cp15.vev ?_
    conv => whnf
    repeat ((first | (apply guardI; · kernel_rfl) | (apply condT; · assumption) | (apply condF; · assumption) | (apply condNT; · assumption) | (apply condNF; · assumption)); conv => whnf)
    refine ⟨_, _, h37k, ?_⟩
    conv => whnf
    repeat ((first | (apply guardI; · kernel_rfl) | (apply condT; · assumption) | (apply condF; · assumption) | (apply condNT; · assumption) | (apply condNF; · assumption)); conv => whnf)
    refine ⟨_, _, h38, ?_⟩
    conv => whnf
    repeat ((first | (apply guardI; · kernel_rfl) | (apply condT; · assumption) | (apply condF; · assumption) | (apply condNT; · assumption) | (apply condNF; · assumption)); conv => whnf)
    refine ⟨_, _, h39, ?_⟩
    conv => whnf
    repeat ((first | (apply guardI; · kernel_rfl) | (apply condT; · assumption) | (apply condF; · assumption) | (apply condNT; · assumption) | (apply condNF; · assumption)); conv => whnf)
    refine ⟨_, _, h42, ?_⟩
    conv => whnf
    repeat ((first | (apply guardI; · kernel_rfl) | (apply condT; · assumption) | (apply condF; · assumption) | (apply condNT; · assumption) | (apply condNF; · assumption)); conv => whnf)
    refine ⟨_, _, h40, ?_⟩
    conv => whnf
    repeat ((first | (apply guardI; · kernel_rfl) | (apply condT; · assumption) | (apply condF; · assumption) | (apply condNT; · assumption) | (apply condNF; · assumption)); conv => whnf)
    exact ⟨by kernel_rfl, by kernel_rfl⟩
  · have he : (encEv ⟨3, id, n, text, pa, pi, ps, s, r, err, flag⟩) = encI 3 ++ (encI n) := rfl
    rw [he] at hb ⊢
    have h40 := e40 [encI 3, encI n] (show 2 < 4294967296 by decide)
    have e : [encI 3, encI n].flatMap _root_.id = encI 3 ++ (encI n) := by simp
    rw [e] at h40
    have h40 := h40 hb
    simp only [List.length_append] at hb
    clear e hb he
    refine cp15.vev ?_
    conv => whnf
    repeat ((first | (apply guardI; · kernel_rfl) | (apply condT; · assumption) | (apply condF; · assumption) | (apply condNT; · assumption) | (apply condNF; · assumption)); conv => whnf)
    refine ⟨_, _, h37k, ?_⟩
    conv => whnf
    repeat ((first | (apply guardI; · kernel_rfl) | (apply condT; · assumption) | (apply condF; · assumption) | (apply condNT; · assumption) | (apply condNF; · assumption)); conv => whnf)
    refine ⟨_, _, h38, ?_⟩
    conv => whnf
    repeat ((first | (apply guardI; · kernel_rfl) | (apply condT; · assumption) | (apply condF; · assumption) | (apply condNT; · assumption) | (apply condNF; · assumption)); conv => whnf)
    refine ⟨_, _, h39, ?_⟩
    conv => whnf
    repeat ((first | (apply guardI; · kernel_rfl) | (apply condT; · assumption) | (apply condF; · assumption) | (apply condNT; · assumption) | (apply condNF; · assumption)); conv => whnf)
    refine ⟨_, _, h37n, ?_⟩
    conv => whnf
    repeat ((first | (apply guardI; · kernel_rfl) | (apply condT; · assumption) | (apply condF; · assumption) | (apply condNT; · assumption) | (apply condNF; · assumption)); conv => whnf)
    refine ⟨_, _, h40, ?_⟩
    conv => whnf
    repeat ((first | (apply guardI; · kernel_rfl) | (apply condT; · assumption) | (apply condF; · assumption) | (apply condNT; · assumption) | (apply condNF; · assumption)); conv => whnf)
    exact ⟨by kernel_rfl, by kernel_rfl⟩
  · have he : (encEv ⟨4, id, n, text, pa, pi, ps, s, r, err, flag⟩) = encI 4 ++ (encTx text ++ encI n ++ encPs ps ++ encB flag) := rfl
    rw [he] at hb ⊢
    have h40 := e40 [encI 4, encTx text, encI n, encPs ps, encB flag] (show 5 < 4294967296 by decide)
    have e : [encI 4, encTx text, encI n, encPs ps, encB flag].flatMap _root_.id = encI 4 ++ (encTx text ++ encI n ++ encPs ps ++ encB flag) := by simp
    rw [e] at h40
    have h40 := h40 hb
    simp only [List.length_append] at hb
    have h43 := h43 (by show (encPs ps).length < BND; omega)
    clear e hb he
    refine cp15.vev ?_
    conv => whnf
    repeat ((first | (apply guardI; · kernel_rfl) | (apply condT; · assumption) | (apply condF; · assumption) | (apply condNT; · assumption) | (apply condNF; · assumption)); conv => whnf)
    refine ⟨_, _, h37k, ?_⟩
    conv => whnf
    repeat ((first | (apply guardI; · kernel_rfl) | (apply condT; · assumption) | (apply condF; · assumption) | (apply condNT; · assumption) | (apply condNF; · assumption)); conv => whnf)
    refine ⟨_, _, h38, ?_⟩
    conv => whnf
    repeat ((first | (apply guardI; · kernel_rfl) | (apply condT; · assumption) | (apply condF; · assumption) | (apply condNT; · assumption) | (apply condNF; · assumption)); conv => whnf)
    refine ⟨_, _, h39, ?_⟩
    conv => whnf
    repeat ((first | (apply guardI; · kernel_rfl) | (apply condT; · assumption) | (apply condF; · assumption) | (apply condNT; · assumption) | (apply condNF; · assumption)); conv => whnf)
    refine ⟨_, _, h41, ?_⟩
    conv => whnf
    repeat ((first | (apply guardI; · kernel_rfl) | (apply condT; · assumption) | (apply condF; · assumption) | (apply condNT; · assumption) | (apply condNF; · assumption)); conv => whnf)
    refine ⟨_, _, h37n, ?_⟩
    conv => whnf
    repeat ((first | (apply guardI; · kernel_rfl) | (apply condT; · assumption) | (apply condF; · assumption) | (apply condNT; · assumption) | (apply condNF; · assumption)); conv => whnf)
    refine ⟨_, _, h43, ?_⟩
    conv => whnf
    repeat ((first | (apply guardI; · kernel_rfl) | (apply condT; · assumption) | (apply condF; · assumption) | (apply condNT; · assumption) | (apply condNF; · assumption)); conv => whnf)
    refine ⟨_, _, h40, ?_⟩
    conv => whnf
    repeat ((first | (apply guardI; · kernel_rfl) | (apply condT; · assumption) | (apply condF; · assumption) | (apply condNT; · assumption) | (apply condNF; · assumption)); conv => whnf)
    exact ⟨by kernel_rfl, by kernel_rfl⟩
  · have he : (encEv ⟨5, id, n, text, pa, pi, ps, s, r, err, flag⟩) = encI 5 ++ (encPs ps ++ encB flag) := rfl
    rw [he] at hb ⊢
    have h40 := e40 [encI 5, encPs ps, encB flag] (show 3 < 4294967296 by decide)
    have e : [encI 5, encPs ps, encB flag].flatMap _root_.id = encI 5 ++ (encPs ps ++ encB flag) := by simp
    rw [e] at h40
    have h40 := h40 hb
    simp only [List.length_append] at hb
    have h43 := h43 (by show (encPs ps).length < BND; omega)
    clear e hb he
    refine cp15.vev ?_
    conv => whnf
    repeat ((first | (apply guardI; · kernel_rfl) | (apply condT; · assumption) | (apply condF; · assumption) | (apply condNT; · assumption) | (apply condNF; · assumption)); conv => whnf)
    refine ⟨_, _, h37k, ?_⟩
    conv => whnf
    repeat ((first | (apply guardI; · kernel_rfl) | (apply condT; · assumption) | (apply condF; · assumption) | (apply condNT; · assumption) | (apply condNF; · assumption)); conv => whnf)
    refine ⟨_, _, h38, ?_⟩
    conv => whnf
    repeat ((first | (apply guardI; · kernel_rfl) | (apply condT; · assumption) | (apply condF; · assumption) | (apply condNT; · assumption) | (apply condNF; · assumption)); conv => whnf)
    refine ⟨_, _, h39, ?_⟩
    conv => whnf
    repeat ((first | (apply guardI; · kernel_rfl) | (apply condT; · assumption) | (apply condF; · assumption) | (apply condNT; · assumption) | (apply condNF; · assumption)); conv => whnf)
    refine ⟨_, _, h43, ?_⟩
    conv => whnf
    repeat ((first | (apply guardI; · kernel_rfl) | (apply condT; · assumption) | (apply condF; · assumption) | (apply condNT; · assumption) | (apply condNF; · assumption)); conv => whnf)
    refine ⟨_, _, h40, ?_⟩
    conv => whnf
    repeat ((first | (apply guardI; · kernel_rfl) | (apply condT; · assumption) | (apply condF; · assumption) | (apply condNT; · assumption) | (apply condNF; · assumption)); conv => whnf)
    exact ⟨by kernel_rfl, by kernel_rfl⟩
  · have he : (encEv ⟨6, id, n, text, pa, pi, ps, s, r, err, flag⟩) = encI 6 ++ (encI id) := rfl
    rw [he] at hb ⊢
    have h40 := e40 [encI 6, encI id] (show 2 < 4294967296 by decide)
    have e : [encI 6, encI id].flatMap _root_.id = encI 6 ++ (encI id) := by simp
    rw [e] at h40
    have h40 := h40 hb
    simp only [List.length_append] at hb
    clear e hb he
    refine cp15.vev ?_
    conv => whnf
    repeat ((first | (apply guardI; · kernel_rfl) | (apply condT; · assumption) | (apply condF; · assumption) | (apply condNT; · assumption) | (apply condNF; · assumption)); conv => whnf)
    refine ⟨_, _, h37k, ?_⟩
    conv => whnf
    repeat ((first | (apply guardI; · kernel_rfl) | (apply condT; · assumption) | (apply condF; · assumption) | (apply condNT; · assumption) | (apply condNF; · assumption)); conv => whnf)
    refine ⟨_, _, h38, ?_⟩
    conv => whnf
    repeat ((first | (apply guardI; · kernel_rfl) | (apply condT; · assumption) | (apply condF; · assumption) | (apply condNT; · assumption) | (apply condNF; · assumption)); conv => whnf)
    refine ⟨_, _, h39, ?_⟩
    conv => whnf
    repeat ((first | (apply guardI; · kernel_rfl) | (apply condT; · assumption) | (apply condF; · assumption) | (apply condNT; · assumption) | (apply condNF; · assumption)); conv => whnf)
    refine ⟨_, _, h37i, ?_⟩
    conv => whnf
    repeat ((first | (apply guardI; · kernel_rfl) | (apply condT; · assumption) | (apply condF; · assumption) | (apply condNT; · assumption) | (apply condNF; · assumption)); conv => whnf)
    refine ⟨_, _, h40, ?_⟩
    conv => whnf
    repeat ((first | (apply guardI; · kernel_rfl) | (apply condT; · assumption) | (apply condF; · assumption) | (apply condNT; · assumption) | (apply condNF; · assumption)); conv => whnf)
    exact ⟨by kernel_rfl, by kernel_rfl⟩
  · have he : (encEv ⟨7, id, n, text, pa, pi, ps, s, r, err, flag⟩) = encI 7 ++ (encPt ⟨pa, pi⟩) := rfl
    rw [he] at hb ⊢
    have h40 := e40 [encI 7, encPt ⟨pa, pi⟩] (show 2 < 4294967296 by decide)
    have e : [encI 7, encPt ⟨pa, pi⟩].flatMap _root_.id = encI 7 ++ (encPt ⟨pa, pi⟩) := by simp
    rw [e] at h40
    have h40 := h40 hb
    simp only [List.length_append] at hb
    clear e hb he
    refine cp15.vev ?_
    conv => whnf
    repeat ((first | (apply guardI; · kernel_rfl) | (apply condT; · assumption) | (apply condF; · assumption) | (apply condNT; · assumption) | (apply condNF; · assumption)); conv => whnf)
    refine ⟨_, _, h37k, ?_⟩
    conv => whnf
    repeat ((first | (apply guardI; · kernel_rfl) | (apply condT; · assumption) | (apply condF; · assumption) | (apply condNT; · assumption) | (apply condNF; · assumption)); conv => whnf)
    refine ⟨_, _, h38, ?_⟩
    conv => whnf
    repeat ((first | (apply guardI; · kernel_rfl) | (apply condT; · assumption) | (apply condF; · assumption) | (apply condNT; · assumption) | (apply condNF; · assumption)); conv => whnf)
    refine ⟨_, _, h39, ?_⟩
    conv => whnf
    repeat ((first | (apply guardI; · kernel_rfl) | (apply condT; · assumption) | (apply condF; · assumption) | (apply condNT; · assumption) | (apply condNF; · assumption)); conv => whnf)
    refine ⟨_, _, h40, ?_⟩
    conv => whnf
    repeat ((first | (apply guardI; · kernel_rfl) | (apply condT; · assumption) | (apply condF; · assumption) | (apply condNT; · assumption) | (apply condNF; · assumption)); conv => whnf)
    exact ⟨by kernel_rfl, by kernel_rfl⟩
  · have he : (encEv ⟨8, id, n, text, pa, pi, ps, s, r, err, flag⟩) = encI 8 ++ (encI id ++ encTb s r) := rfl
    rw [he] at hb ⊢
    have h40 := e40 [encI 8, encI id, encTb s r] (show 3 < 4294967296 by decide)
    have e : [encI 8, encI id, encTb s r].flatMap _root_.id = encI 8 ++ (encI id ++ encTb s r) := by simp
    rw [e] at h40
    have h40 := h40 hb
    simp only [List.length_append] at hb
    have h42 := h42 (by show (encTb s r).length < BND; omega)
    clear e hb he
    refine cp15.vev ?_
    conv => whnf
    repeat ((first | (apply guardI; · kernel_rfl) | (apply condT; · assumption) | (apply condF; · assumption) | (apply condNT; · assumption) | (apply condNF; · assumption)); conv => whnf)
    refine ⟨_, _, h37k, ?_⟩
    conv => whnf
    repeat ((first | (apply guardI; · kernel_rfl) | (apply condT; · assumption) | (apply condF; · assumption) | (apply condNT; · assumption) | (apply condNF; · assumption)); conv => whnf)
    refine ⟨_, _, h38, ?_⟩
    conv => whnf
    repeat ((first | (apply guardI; · kernel_rfl) | (apply condT; · assumption) | (apply condF; · assumption) | (apply condNT; · assumption) | (apply condNF; · assumption)); conv => whnf)
    refine ⟨_, _, h39, ?_⟩
    conv => whnf
    repeat ((first | (apply guardI; · kernel_rfl) | (apply condT; · assumption) | (apply condF; · assumption) | (apply condNT; · assumption) | (apply condNF; · assumption)); conv => whnf)
    refine ⟨_, _, h37i, ?_⟩
    conv => whnf
    repeat ((first | (apply guardI; · kernel_rfl) | (apply condT; · assumption) | (apply condF; · assumption) | (apply condNT; · assumption) | (apply condNF; · assumption)); conv => whnf)
    refine ⟨_, _, h42, ?_⟩
    conv => whnf
    repeat ((first | (apply guardI; · kernel_rfl) | (apply condT; · assumption) | (apply condF; · assumption) | (apply condNT; · assumption) | (apply condNF; · assumption)); conv => whnf)
    refine ⟨_, _, h40, ?_⟩
    conv => whnf
    repeat ((first | (apply guardI; · kernel_rfl) | (apply condT; · assumption) | (apply condF; · assumption) | (apply condNT; · assumption) | (apply condNF; · assumption)); conv => whnf)
    exact ⟨by kernel_rfl, by kernel_rfl⟩
  · have he : (encEv ⟨9, id, n, text, pa, pi, ps, s, r, err, flag⟩) = encI 9 ++ (encI id ++ encI n ++ encI err ++ encB flag) := rfl
    rw [he] at hb ⊢
    have h40 := e40 [encI 9, encI id, encI n, encI err, encB flag] (show 5 < 4294967296 by decide)
    have e : [encI 9, encI id, encI n, encI err, encB flag].flatMap _root_.id = encI 9 ++ (encI id ++ encI n ++ encI err ++ encB flag) := by simp
    rw [e] at h40
    have h40 := h40 hb
    simp only [List.length_append] at hb
    clear e hb he
    refine cp15.vev ?_
    conv => whnf
    repeat ((first | (apply guardI; · kernel_rfl) | (apply condT; · assumption) | (apply condF; · assumption) | (apply condNT; · assumption) | (apply condNF; · assumption)); conv => whnf)
    refine ⟨_, _, h37k, ?_⟩
    conv => whnf
    repeat ((first | (apply guardI; · kernel_rfl) | (apply condT; · assumption) | (apply condF; · assumption) | (apply condNT; · assumption) | (apply condNF; · assumption)); conv => whnf)
    refine ⟨_, _, h38, ?_⟩
    conv => whnf
    repeat ((first | (apply guardI; · kernel_rfl) | (apply condT; · assumption) | (apply condF; · assumption) | (apply condNT; · assumption) | (apply condNF; · assumption)); conv => whnf)
    refine ⟨_, _, h39, ?_⟩
    conv => whnf
    repeat ((first | (apply guardI; · kernel_rfl) | (apply condT; · assumption) | (apply condF; · assumption) | (apply condNT; · assumption) | (apply condNF; · assumption)); conv => whnf)
    refine ⟨_, _, h37i, ?_⟩
    conv => whnf
    repeat ((first | (apply guardI; · kernel_rfl) | (apply condT; · assumption) | (apply condF; · assumption) | (apply condNT; · assumption) | (apply condNF; · assumption)); conv => whnf)
    refine ⟨_, _, h37n, ?_⟩
    conv => whnf
    repeat ((first | (apply guardI; · kernel_rfl) | (apply condT; · assumption) | (apply condF; · assumption) | (apply condNT; · assumption) | (apply condNF; · assumption)); conv => whnf)
    refine ⟨_, _, h37e, ?_⟩
    conv => whnf
    repeat ((first | (apply guardI; · kernel_rfl) | (apply condT; · assumption) | (apply condF; · assumption) | (apply condNT; · assumption) | (apply condNF; · assumption)); conv => whnf)
    refine ⟨_, _, h40, ?_⟩
    conv => whnf
    repeat ((first | (apply guardI; · kernel_rfl) | (apply condT; · assumption) | (apply condF; · assumption) | (apply condNT; · assumption) | (apply condNF; · assumption)); conv => whnf)
    exact ⟨by kernel_rfl, by kernel_rfl⟩
  · have he : (encEv ⟨10, id, n, text, pa, pi, ps, s, r, err, flag⟩) = encI 10 ++ (encI id) := rfl
    rw [he] at hb ⊢
    have h40 := e40 [encI 10, encI id] (show 2 < 4294967296 by decide)
    have e : [encI 10, encI id].flatMap _root_.id = encI 10 ++ (encI id) := by simp
    rw [e] at h40
    have h40 := h40 hb
    simp only [List.length_append] at hb
    clear e hb he
    refine cp15.vev ?_
    conv => whnf
    repeat ((first | (apply guardI; · kernel_rfl) | (apply condT; · assumption) | (apply condF; · assumption) | (apply condNT; · assumption) | (apply condNF; · assumption)); conv => whnf)
    refine ⟨_, _, h37k, ?_⟩
    conv => whnf
    repeat ((first | (apply guardI; · kernel_rfl) | (apply condT; · assumption) | (apply condF; · assumption) | (apply condNT; · assumption) | (apply condNF; · assumption)); conv => whnf)
    refine ⟨_, _, h38, ?_⟩
    conv => whnf
    repeat ((first | (apply guardI; · kernel_rfl) | (apply condT; · assumption) | (apply condF; · assumption) | (apply condNT; · assumption) | (apply condNF; · assumption)); conv => whnf)
    refine ⟨_, _, h39, ?_⟩
    conv => whnf
    repeat ((first | (apply guardI; · kernel_rfl) | (apply condT; · assumption) | (apply condF; · assumption) | (apply condNT; · assumption) | (apply condNF; · assumption)); conv => whnf)
    refine ⟨_, _, h37i, ?_⟩
    conv => whnf
    repeat ((first | (apply guardI; · kernel_rfl) | (apply condT; · assumption) | (apply condF; · assumption) | (apply condNT; · assumption) | (apply condNF; · assumption)); conv => whnf)
    refine ⟨_, _, h40, ?_⟩
    conv => whnf
    repeat ((first | (apply guardI; · kernel_rfl) | (apply condT; · assumption) | (apply condF; · assumption) | (apply condNT; · assumption) | (apply condNF; · assumption)); conv => whnf)
    exact ⟨by kernel_rfl, by kernel_rfl⟩
  · have he : (encEv ⟨11, id, n, text, pa, pi, ps, s, r, err, flag⟩) = encI 11 ++ (encB flag) := rfl
    rw [he] at hb ⊢
    have h40 := e40 [encI 11, encB flag] (show 2 < 4294967296 by decide)
    have e : [encI 11, encB flag].flatMap _root_.id = encI 11 ++ (encB flag) := by simp
    rw [e] at h40
    have h40 := h40 hb
    simp only [List.length_append] at hb
    clear e hb he
    refine cp15.vev ?_
    conv => whnf
    repeat ((first | (apply guardI; · kernel_rfl) | (apply condT; · assumption) | (apply condF; · assumption) | (apply condNT; · assumption) | (apply condNF; · assumption)); conv => whnf)
    refine ⟨_, _, h37k, ?_⟩
    conv => whnf
    repeat ((first | (apply guardI; · kernel_rfl) | (apply condT; · assumption) | (apply condF; · assumption) | (apply condNT; · assumption) | (apply condNF; · assumption)); conv => whnf)
    refine ⟨_, _, h38, ?_⟩
    conv => whnf
    repeat ((first | (apply guardI; · kernel_rfl) | (apply condT; · assumption) | (apply condF; · assumption) | (apply condNT; · assumption) | (apply condNF; · assumption)); conv => whnf)
    refine ⟨_, _, h39, ?_⟩
    conv => whnf
    repeat ((first | (apply guardI; · kernel_rfl) | (apply condT; · assumption) | (apply condF; · assumption) | (apply condNT; · assumption) | (apply condNF; · assumption)); conv => whnf)
    refine ⟨_, _, h40, ?_⟩
    conv => whnf
    repeat ((first | (apply guardI; · kernel_rfl) | (apply condT; · assumption) | (apply condF; · assumption) | (apply condNT; · assumption) | (apply condNF; · assumption)); conv => whnf)
    exact ⟨by kernel_rfl, by kernel_rfl⟩
  · have he : (encEv ⟨12, id, n, text, pa, pi, ps, s, r, err, flag⟩) = encI 12 := by simp [encEv]
    rw [he]
    refine cp15.vev ?_
    conv => whnf
    repeat ((first | (apply guardI; · kernel_rfl) | (apply condT; · assumption) | (apply condF; · assumption) | (apply condNT; · assumption) | (apply condNF; · assumption)); conv => whnf)
    refine ⟨_, _, h37k, ?_⟩
    conv => whnf
    repeat ((first | (apply guardI; · kernel_rfl) | (apply condT; · assumption) | (apply condF; · assumption) | (apply condNT; · assumption) | (apply condNF; · assumption)); conv => whnf)
    refine ⟨_, _, h38, ?_⟩
    conv => whnf
    repeat ((first | (apply guardI; · kernel_rfl) | (apply condT; · assumption) | (apply condF; · assumption) | (apply condNT; · assumption) | (apply condNF; · assumption)); conv => whnf)
    refine ⟨_, _, h39, ?_⟩
    conv => whnf
    repeat ((first | (apply guardI; · kernel_rfl) | (apply condT; · assumption) | (apply condF; · assumption) | (apply condNT; · assumption) | (apply condNF; · assumption)); conv => whnf)
    exact ⟨by kernel_rfl, by kernel_rfl⟩
  · have he : (encEv ⟨13, id, n, text, pa, pi, ps, s, r, err, flag⟩) = encI 13 := by simp [encEv]
    rw [he]
    refine cp15.vev ?_
    conv => whnf
    repeat ((first | (apply guardI; · kernel_rfl) | (apply condT; · assumption) | (apply condF; · assumption) | (apply condNT; · assumption) | (apply condNF; · assumption)); conv => whnf)
    refine ⟨_, _, h37k, ?_⟩
    conv => whnf
    repeat ((first | (apply guardI; · kernel_rfl) | (apply condT; · assumption) | (apply condF; · assumption) | (apply condNT; · assumption) | (apply condNF; · assumption)); conv => whnf)
    refine ⟨_, _, h38, ?_⟩
    conv => whnf
    repeat ((first | (apply guardI; · kernel_rfl) | (apply condT; · assumption) | (apply condF; · assumption) | (apply condNT; · assumption) | (apply condNF; · assumption)); conv => whnf)
    refine ⟨_, _, h39, ?_⟩
    conv => whnf
    repeat ((first | (apply guardI; · kernel_rfl) | (apply condT; · assumption) | (apply condF; · assumption) | (apply condNT; · assumption) | (apply condNF; · assumption)); conv => whnf)
    exact ⟨by kernel_rfl, by kernel_rfl⟩

end Go.Proofs.YthalcnhgnadmlaaDoor
