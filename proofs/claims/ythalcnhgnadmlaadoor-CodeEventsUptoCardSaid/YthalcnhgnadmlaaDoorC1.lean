/- What the small functions compute. Conditions: none. -/
import Derived.Test.YthalcnhgnadmlaaDoorVf
import Derived.Test.YthalcnhgnadmlaaDoorLift
import Derived.Test.YthalcnhgnadmlaaDoorV6
set_option maxRecDepth 100000
namespace Go.Proofs.YthalcnhgnadmlaaDoor
open Go Go.Vm

/-! ### Data -/
abbrev Bs := List UInt8
def bs (b : Bs) : D := .list 1 (b.map byteD)
abbrev int (n : Int) : D := .int .i64 n
structure Va where
  k : Int
  n : Int
  t : Bs
  deriving DecidableEq
structure Co where
  name : Bs
  ty : Int
  deriving DecidableEq
structure Pt where
  a : Bs
  i : Int
  deriving DecidableEq
structure Tb where
  s : List Co
  r : List (List Va)
  deriving DecidableEq
def Va.d (v : Va) : D := .agg [int v.k, int v.n, .str v.t]
def Co.d (c : Co) : D := .agg [.str c.name, int c.ty]
def Pt.d (p : Pt) : D := .agg [.str p.a, int p.i]
def sD (s : List Co) : D := .list 2 (s.map Co.d)
def rD (r : List Va) : D := .list 3 (r.map Va.d)
def rsD (r : List (List Va)) : D := .list 1 (r.map rD)
def psD (l : List Pt) : D := .list 2 (l.map Pt.d)
def Tb.d (t : Tb) : D := .agg [sD t.s, rsD t.r]
def lt : List (Nat × Val) → Nat → Val
  | [] => fun _ => .undef
  | (k, v) :: l => upd (lt l) k v
def lb : List (Nat × List Val) → Nat → Option (List Val)
  | [] => fun _ => none
  | (k, v) :: l => upd (lb l) k (some v)
def mkS (l : List (Nat × Val)) (s : Store) : St := ⟨lt l, fun _ => none, s⟩
def mkSB (l : List (Nat × Val)) (b : List (Nat × List Val)) (s : Store) : St := ⟨lt l, lb b, s⟩

theorem getD_map {α : Type} {f : α → D} {d : D} {l : List α} {i : Nat} (h : i < l.length) : (l.map f).getD (Int.toNat (i : Int)) d = f l[i] := by
  rw [Int.toNat_natCast, List.getD_eq_getElem?_getD, List.getElem?_map, List.getElem?_eq_getElem h]; rfl

/-- A function of which not the result, but that there is one, is told. -/
theorem tot {α : Type} {f : Nat} {vf : VF} {qs : List Val} (mk : α → Val) (p : α → Prop) (h : Compiled Tryd.prog f vf) (hr : runF (RP Tryd.prog gl) gl vf qs [] fun r s' => (∃ x, p x ∧ r = mk x) ∧ s' = []) : ∃ x, p x ∧ VEv Tryd.prog gl f qs [] (mk x) [] := by
  obtain ⟨r, s', ⟨⟨x, hp, rfl⟩, rfl⟩, hv⟩ := h.ext hr
  exact ⟨x, hp, hv⟩

theorem condT {b : Bool} {A B : Prop} (h : b = true) (ha : A) : cond b A B := by subst h; exact ha
theorem condF {b : Bool} {A B : Prop} (h : b = false) (hb : B) : cond b A B := by subst h; exact hb
theorem condNT {b : Bool} {A B : Prop} (h : b = false) (ha : A) : cond (!b) A B := by subst h; exact ha
theorem condNF {b : Bool} {A B : Prop} (h : b = true) (hb : B) : cond (!b) A B := by subst h; exact hb
theorem condGF {b : Bool} {A B : Prop} (h1 : b = true → B) (h2 : b = false → A) : cond (cond false b (!b)) A B := by cases b; exact h2 rfl; exact h1 rfl
theorem condGT {b : Bool} {A B : Prop} (h1 : b = true → A) (h2 : b = false → B) : cond (cond true b (!b)) A B := by cases b; exact h2 rfl; exact h1 rfl
theorem guardI {b : Bool} {q : Prop} (h : b = true) (hq : q) : b = true ∧ q := ⟨h, hq⟩
theorem condI {b : Bool} {A B : Prop} (h1 : b = true → A) (h2 : b = false → B) : cond b A B := by cases b; exact h2 rfl; exact h1 rfl
theorem condN {b : Bool} {A B : Prop} (h1 : b = false → A) (h2 : b = true → B) : cond (!b) A B := by cases b; exact h1 rfl; exact h2 rfl

attribute [local irreducible] Int.decLt Int.decLe Int.instDecidableEq IntKind.wrap instDecidableEqList

theorem e82 (a : Int) : VEv Tryd.prog gl 82 [.d (int a)] [] (.d (.bool false)) [] := by
  refine cp82.vev ?_
  conv => whnf
  repeat ((first | (apply guardI; · rfl) | (apply condT; · assumption) | (apply condF; · assumption) | (apply condNT; · assumption) | (apply condNF; · assumption)); conv => whnf)
  exact ⟨show Val.d (.bool (!decide (a = a))) = _ by simp, rfl⟩

theorem e77 (a b : Int) : ∃ e : Int, True ∧ VEv Tryd.prog gl 77 [.d (int a), .d (int b)] [] (.d (int e)) [] := by
  refine tot (fun e : Int => .d (int e)) _ cp77 ?_
  conv => whnf
  repeat ((first | (apply guardI; · rfl) | (apply condT; · assumption) | (apply condF; · assumption) | (apply condNT; · assumption) | (apply condNF; · assumption)); conv => whnf)
  refine ⟨_, _, e82 a, ?_⟩
  conv => whnf
  repeat ((first | (apply guardI; · rfl) | (apply condT; · assumption) | (apply condF; · assumption) | (apply condNT; · assumption) | (apply condNF; · assumption)); conv => whnf)
  refine ⟨_, _, e82 b, ?_⟩
  conv => whnf
  repeat ((first | (apply guardI; · rfl) | (apply condT; · assumption) | (apply condF; · assumption) | (apply condNT; · assumption) | (apply condNF; · assumption)); conv => whnf)
  first | refine condGF (fun h => ?_) (fun h => ?_) | ((refine condI (fun h => ?_) (fun h => ?_)) <;> (try simp only [cond_true] at h))
  · conv => whnf
    repeat ((first | (apply guardI; · rfl) | (apply condT; · assumption) | (apply condF; · assumption) | (apply condNT; · assumption) | (apply condNF; · assumption)); conv => whnf)
    exact ⟨⟨_, trivial, rfl⟩, rfl⟩
  · conv => whnf
    repeat ((first | (apply guardI; · rfl) | (apply condT; · assumption) | (apply condF; · assumption) | (apply condNT; · assumption) | (apply condNF; · assumption)); conv => whnf)
    first | refine condGF (fun h2 => ?_) (fun h2 => ?_) | ((refine condI (fun h2 => ?_) (fun h2 => ?_)) <;> (try simp only [cond_true] at h2))
    · conv => whnf
      repeat ((first | (apply guardI; · rfl) | (apply condT; · assumption) | (apply condF; · assumption) | (apply condNT; · assumption) | (apply condNF; · assumption)); conv => whnf)
      exact ⟨⟨_, trivial, rfl⟩, rfl⟩
    · conv => whnf
      repeat ((first | (apply guardI; · rfl) | (apply condT; · assumption) | (apply condF; · assumption) | (apply condNT; · assumption) | (apply condNF; · assumption)); conv => whnf)
      exact ⟨⟨_, trivial, rfl⟩, rfl⟩

theorem e83 (a b : Bs) : ∃ e : Int, True ∧ VEv Tryd.prog gl 83 [.d (.str a), .d (.str b)] [] (.d (int e)) [] := by
  refine tot (fun e : Int => .d (int e)) _ cp83 ?_
  conv => whnf
  repeat ((first | (apply guardI; · rfl) | (apply condT; · assumption) | (apply condF; · assumption) | (apply condNT; · assumption) | (apply condNF; · assumption)); conv => whnf)
  exact ⟨⟨_, trivial, rfl⟩, rfl⟩

theorem e78 (a b : Bs) : ∃ e : Int, True ∧ VEv Tryd.prog gl 78 [.d (.str a), .d (.str b)] [] (.d (int e)) [] := by
  obtain ⟨e, _, he⟩ := e83 a b
  refine tot (fun e : Int => .d (int e)) _ cp78 ?_
  conv => whnf
  repeat ((first | (apply guardI; · rfl) | (apply condT; · assumption) | (apply condF; · assumption) | (apply condNT; · assumption) | (apply condNF; · assumption)); conv => whnf)
  refine ⟨_, _, he, ?_⟩
  conv => whnf
  repeat ((first | (apply guardI; · rfl) | (apply condT; · assumption) | (apply condF; · assumption) | (apply condNT; · assumption) | (apply condNF; · assumption)); conv => whnf)
  exact ⟨⟨_, trivial, rfl⟩, rfl⟩

theorem wrapS {i : Nat} (h : i < 4611686018427387904) : IntKind.i64.wrap ((i : Int) + 1) = ((i + 1 : Nat) : Int) := by
  unfold IntKind.wrap
  simp [IntKind.signed, IntKind.bits, IntKind.min, IntKind.max]
  omega

def st76 (l : D) (n : Int) : St := mkS [(3, .d (int 0)), (6, .d l), (7, .d (int 3)), (8, .d (int n))] []
theorem e76 (a b c : Int) : ∃ e : Int, True ∧ VEv Tryd.prog gl 76 [.d (.list 1 [int a, int b, int c])] [] (.d (int e)) [] := by
  refine tot (fun e : Int => .d (int e)) _ cp76 ?_
  conv => whnf
  repeat ((first | (apply guardI; · rfl) | (apply condT; · assumption) | (apply condF; · assumption) | (apply condNT; · assumption) | (apply condNF; · assumption)); conv => whnf)
  refine ⟨fun n st => ∃ i : Nat, i ≤ 3 ∧ n = 3 - i ∧ st = st76 (.list 1 [int a, int b, int c]) i, 3, ⟨0, by omega, rfl, rfl⟩, ?_⟩
  rintro _ _ ⟨i, hi, rfl, rfl⟩
  conv => whnf
  repeat ((first | (apply guardI; · rfl) | (apply condT; · assumption) | (apply condF; · assumption) | (apply condNT; · assumption) | (apply condNF; · assumption)); conv => whnf)
  first | refine condGF (fun h => ?_) (fun h => ?_) | ((refine condI (fun h => ?_) (fun h => ?_)) <;> (try simp only [cond_true] at h))
  · conv => whnf
    repeat ((first | (apply guardI; · rfl) | (apply condT; · assumption) | (apply condF; · assumption) | (apply condNT; · assumption) | (apply condNF; · assumption)); conv => whnf)
    obtain ⟨q, hq⟩ : ∃ q : Int, ([int a, int b, int c] : List D).getD (Int.toNat (i : Int)) .nilp = int q := by
      match i, hi with
      | 0, _ => exact ⟨_, rfl⟩
      | 1, _ => exact ⟨_, rfl⟩
      | 2, _ => exact ⟨_, rfl⟩
      | 3, _ => simp at h
    refine ⟨by simp at h ⊢; omega, ?_⟩
    rw [hq]
    conv => whnf
    repeat ((first | (apply guardI; · rfl) | (apply condT; · assumption) | (apply condF; · assumption) | (apply condNT; · assumption) | (apply condNF; · assumption)); conv => whnf)
    refine condN (fun h2 => ?_) (fun h2 => ?_)
    · conv => whnf
      repeat ((first | (apply guardI; · rfl) | (apply condT; · assumption) | (apply condF; · assumption) | (apply condNT; · assumption) | (apply condNF; · assumption)); conv => whnf)
      exact ⟨⟨_, trivial, rfl⟩, rfl⟩
    · conv => whnf
      repeat ((first | (apply guardI; · rfl) | (apply condT; · assumption) | (apply condF; · assumption) | (apply condNT; · assumption) | (apply condNF; · assumption)); conv => whnf)
      have h' : i < 3 := by simp at h; omega
      exact ⟨3 - (i + 1), by omega, i + 1, by omega, rfl, congrArg (st76 (.list 1 [int a, int b, int c])) (wrapS (by omega))⟩
  · conv => whnf
    repeat ((first | (apply guardI; · rfl) | (apply condT; · assumption) | (apply condF; · assumption) | (apply condNT; · assumption) | (apply condNF; · assumption)); conv => whnf)
    exact ⟨⟨_, trivial, rfl⟩, rfl⟩

theorem e69 (a b : Va) : ∃ e : Int, True ∧ VEv Tryd.prog gl 69 [.d a.d, .d b.d] [] (.d (int e)) [] := by
  obtain ⟨e1, _, h1⟩ := e77 a.k b.k
  obtain ⟨e2, _, h2⟩ := e77 a.n b.n
  obtain ⟨e3, _, h3⟩ := e78 a.t b.t
  obtain ⟨e4, _, h4⟩ := e76 e1 e2 e3
  refine tot (fun e : Int => .d (int e)) _ cp69 ?_
  conv => whnf
  repeat ((first | (apply guardI; · rfl) | (apply condT; · assumption) | (apply condF; · assumption) | (apply condNT; · assumption) | (apply condNF; · assumption)); conv => whnf)
  refine ⟨_, _, h1, ?_⟩
  conv => whnf
  repeat ((first | (apply guardI; · rfl) | (apply condT; · assumption) | (apply condF; · assumption) | (apply condNT; · assumption) | (apply condNF; · assumption)); conv => whnf)
  refine ⟨_, _, h2, ?_⟩
  conv => whnf
  repeat ((first | (apply guardI; · rfl) | (apply condT; · assumption) | (apply condF; · assumption) | (apply condNT; · assumption) | (apply condNF; · assumption)); conv => whnf)
  refine ⟨_, _, h3, ?_⟩
  conv => whnf
  repeat ((first | (apply guardI; · rfl) | (apply condT; · assumption) | (apply condF; · assumption) | (apply condNT; · assumption) | (apply condNF; · assumption)); conv => whnf)
  refine ⟨_, _, h4, ?_⟩
  conv => whnf
  repeat ((first | (apply guardI; · rfl) | (apply condT; · assumption) | (apply condF; · assumption) | (apply condNT; · assumption) | (apply condNF; · assumption)); conv => whnf)
  exact ⟨⟨_, trivial, rfl⟩, rfl⟩

def st68 (a b : List Va) (n : Int) : St := mkS [(0, .d (rD a)), (1, .d (rD b)), (2, .d (.fn 69)), (11, .d (rD a)), (12, .d (int a.length)), (13, .d (int n))] []
theorem e68 (a b : List Va) (ha : a.length < 4611686018427387904) (hb : b.length < 4611686018427387904) : ∃ e : Int, True ∧ VEv Tryd.prog gl 68 [.d (rD a), .d (rD b), .d (.fn 69)] [] (.d (int e)) [] := by
  refine tot (fun e : Int => .d (int e)) _ cp68 ?_
  conv => whnf
  repeat ((first | (apply guardI; · rfl) | (apply condT; · assumption) | (apply condF; · assumption) | (apply condNT; · assumption) | (apply condNF; · assumption)); conv => whnf)
  refine ⟨fun n st => ∃ i : Nat, i ≤ a.length ∧ n = a.length - i ∧ st = st68 a b i, a.length, ⟨0, by omega, rfl, ?_⟩, ?_⟩
  · exact congrArg (fun k => (mkS [(0, .d (rD a)), (1, .d (rD b)), (2, .d (.fn 69)), (11, .d (rD a)), (12, .d (int k)), (13, .d (int 0))] [] : St)) (by simp)
  rintro _ _ ⟨i, hi, rfl, rfl⟩
  conv => whnf
  repeat ((first | (apply guardI; · rfl) | (apply condT; · assumption) | (apply condF; · assumption) | (apply condNT; · assumption) | (apply condNF; · assumption)); conv => whnf)
  first | refine condGF (fun h => ?_) (fun h => ?_) | ((refine condI (fun h => ?_) (fun h => ?_)) <;> (try simp only [cond_true] at h))
  · conv => whnf
    repeat ((first | (apply guardI; · rfl) | (apply condT; · assumption) | (apply condF; · assumption) | (apply condNT; · assumption) | (apply condNF; · assumption)); conv => whnf)
    have h' : i < a.length := by simpa using h
    refine ⟨by simp [h'], ?_⟩
    rw [getD_map (f := Va.d) (d := .nilp) h']
    conv => whnf
    repeat ((first | (apply guardI; · rfl) | (apply condT; · assumption) | (apply condF; · assumption) | (apply condNT; · assumption) | (apply condNF; · assumption)); conv => whnf)
    first | refine condGF (fun h2 => ?_) (fun h2 => ?_) | ((refine condI (fun h2 => ?_) (fun h2 => ?_)) <;> (try simp only [cond_true] at h2))
    · conv => whnf
      repeat ((first | (apply guardI; · rfl) | (apply condT; · assumption) | (apply condF; · assumption) | (apply condNT; · assumption) | (apply condNF; · assumption)); conv => whnf)
      exact ⟨⟨_, trivial, rfl⟩, rfl⟩
    · conv => whnf
      repeat ((first | (apply guardI; · rfl) | (apply condT; · assumption) | (apply condF; · assumption) | (apply condNT; · assumption) | (apply condNF; · assumption)); conv => whnf)
      have h2' : i < b.length := by simpa using h2
      refine ⟨by simp [h2'], ?_⟩
      rw [getD_map (f := Va.d) (d := .nilp) h2']
      conv => whnf
      repeat ((first | (apply guardI; · rfl) | (apply condT; · assumption) | (apply condF; · assumption) | (apply condNT; · assumption) | (apply condNF; · assumption)); conv => whnf)
      obtain ⟨e, _, he⟩ := e69 a[i] b[i]
      refine ⟨_, _, he, ?_⟩
      conv => whnf
      repeat ((first | (apply guardI; · rfl) | (apply condT; · assumption) | (apply condF; · assumption) | (apply condNT; · assumption) | (apply condNF; · assumption)); conv => whnf)
      refine condN (fun h3 => ?_) (fun h3 => ?_)
      · conv => whnf
        repeat ((first | (apply guardI; · rfl) | (apply condT; · assumption) | (apply condF; · assumption) | (apply condNT; · assumption) | (apply condNF; · assumption)); conv => whnf)
        exact ⟨⟨_, trivial, rfl⟩, rfl⟩
      · conv => whnf
        repeat ((first | (apply guardI; · rfl) | (apply condT; · assumption) | (apply condF; · assumption) | (apply condNT; · assumption) | (apply condNF; · assumption)); conv => whnf)
        exact ⟨a.length - (i + 1), by omega, i + 1, by omega, rfl, congrArg (st68 a b) (wrapS (by omega))⟩
  · conv => whnf
    repeat ((first | (apply guardI; · rfl) | (apply condT; · assumption) | (apply condF; · assumption) | (apply condNT; · assumption) | (apply condNF; · assumption)); conv => whnf)
    first | refine condGF (fun h2 => ?_) (fun h2 => ?_) | ((refine condI (fun h2 => ?_) (fun h2 => ?_)) <;> (try simp only [cond_true] at h2))
    · conv => whnf
      repeat ((first | (apply guardI; · rfl) | (apply condT; · assumption) | (apply condF; · assumption) | (apply condNT; · assumption) | (apply condNF; · assumption)); conv => whnf)
      exact ⟨⟨_, trivial, rfl⟩, rfl⟩
    · conv => whnf
      repeat ((first | (apply guardI; · rfl) | (apply condT; · assumption) | (apply condF; · assumption) | (apply condNT; · assumption) | (apply condNF; · assumption)); conv => whnf)
      exact ⟨⟨_, trivial, rfl⟩, rfl⟩

theorem e55 (a b : List Va) (ha : a.length < 4611686018427387904) (hb : b.length < 4611686018427387904) : ∃ e : Int, True ∧ VEv Tryd.prog gl 55 [.d (rD a), .d (rD b)] [] (.d (int e)) [] := by
  obtain ⟨e, _, he⟩ := e68 a b ha hb
  refine tot (fun e : Int => .d (int e)) _ cp55 ?_
  conv => whnf
  repeat ((first | (apply guardI; · rfl) | (apply condT; · assumption) | (apply condF; · assumption) | (apply condNT; · assumption) | (apply condNF; · assumption)); conv => whnf)
  refine ⟨_, _, he, ?_⟩
  conv => whnf
  repeat ((first | (apply guardI; · rfl) | (apply condT; · assumption) | (apply condF; · assumption) | (apply condNT; · assumption) | (apply condNF; · assumption)); conv => whnf)
  exact ⟨⟨_, trivial, rfl⟩, rfl⟩

end Go.Proofs.YthalcnhgnadmlaaDoor
