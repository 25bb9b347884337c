/- Bytes: what is read. Conditions: none. -/
import Derived.Test.YthalcnhgnadmlaaDoorC11
set_option maxRecDepth 100000
namespace Go.Proofs.YthalcnhgnadmlaaDoor
open Go Go.Vm

def rdr (b : Bs) (bad : Bool) : Store := [.box [.d (bs b), .d (.bool bad)]]

/-- What a number's bytes come to. -/
def leV : Bs → Nat
  | [] => 0
  | c :: t => c.toNat + 256 * leV t

theorem leV_lt : ∀ l : Bs, leV l < 256 ^ l.length
  | [] => by simp [leV]
  | c :: t => by
    have h := leV_lt t
    have hc := c.toNat_lt
    simp only [leV, List.length_cons, Nat.pow_succ]
    omega

def szOfHead (c : UInt8) : Nat := if 16 ≤ c.toNat then c.toNat - 16 else c.toNat
/-- Is it a number's text? -/
def badNum (l : Bs) : Prop := (0 < l.length ∧ l.getD (l.length - 1) 0 = 0) ∨ 9223372036854775808 ≤ leV l
instance (l : Bs) : Decidable (badNum l) := inferInstanceAs (Decidable (_ ∨ _))

/-- The number at the beginning. -/
def decI (b : Bs) : Option (Int × Bs) := match b with
  | [] => none
  | c :: t => if 8 < szOfHead c then none else if t.length < szOfHead c then none else if badNum (t.take (szOfHead c)) then none else
      some (if 16 ≤ c.toNat then -1 - (leV (t.take (szOfHead c)) : Int) else (leV (t.take (szOfHead c)) : Int), t.drop (szOfHead c))

section
attribute [local irreducible] Int.decLt Int.decLe Int.instDecidableEq IntKind.wrap instDecidableEqList

theorem take_ok (b : Bs) (n : Int) (h0 : 0 ≤ n) (h1 : n ≤ b.length) : VEv Tryd.prog gl 56 [.ptr 0 0, .d (int n)] (rdr b false) (.d (bs (b.take n.toNat))) (rdr (b.drop n.toNat) false) := by
  refine cp56.vev ?_
  conv => whnf
  repeat ((first | (apply guardI; · rfl) | (apply condT; · assumption) | (apply condF; · assumption) | (apply condNT; · assumption) | (apply condNF; · assumption)); conv => whnf)
  refine condGF (fun h => ?_) (fun h => ?_)
  · simp at h; omega
  conv => whnf
  repeat ((first | (apply guardI; · rfl) | (apply condT; · assumption) | (apply condF; · assumption) | (apply condNT; · assumption) | (apply condNF; · assumption)); conv => whnf)
  first | refine condGF (fun h2 => ?_) (fun h2 => ?_) | ((refine condI (fun h2 => ?_) (fun h2 => ?_)) <;> (try simp only [cond_true] at h2))
  · simp at h2; omega
  conv => whnf
  repeat ((first | (apply guardI; · rfl) | (apply condT; · assumption) | (apply condF; · assumption) | (apply condNT; · assumption) | (apply condNF; · assumption)); conv => whnf)
  refine ⟨by simp; omega, ?_⟩
  conv => whnf
  repeat ((first | (apply guardI; · rfl) | (apply condT; · assumption) | (apply condF; · assumption) | (apply condNT; · assumption) | (apply condNF; · assumption)); conv => whnf)
  refine ⟨by simp; omega, ?_⟩
  conv => whnf
  repeat ((first | (apply guardI; · rfl) | (apply condT; · assumption) | (apply condF; · assumption) | (apply condNT; · assumption) | (apply condNF; · assumption)); conv => whnf)
  refine ⟨show Val.d (.list 1 (((b.map byteD).drop (Int.toNat 0)).take (Int.toNat n - Int.toNat 0))) = _ from ?_, show [Ob.box [Val.d (.list 1 (((b.map byteD).drop (Int.toNat n)).take (Int.toNat ((b.map byteD).length : Int) - Int.toNat n))), Val.d (.bool false)]] = _ from ?_⟩
  · simp [bs, List.map_take]
  · simp only [rdr, bs, List.map_drop, List.length_map, Int.toNat_natCast]
    rw [List.take_of_length_le (by simp)]

theorem take_no (b : Bs) (bad : Bool) (n : Int) (h : bad = true ∨ n < 0 ∨ (b.length : Int) < n) : VEv Tryd.prog gl 56 [.ptr 0 0, .d (int n)] (rdr b bad) (.d (bs [])) (rdr b true) := by
  refine cp56.vev ?_
  conv => whnf
  repeat ((first | (apply guardI; · rfl) | (apply condT; · assumption) | (apply condF; · assumption) | (apply condNT; · assumption) | (apply condNF; · assumption)); conv => whnf)
  cases bad
  · conv => whnf
    repeat ((first | (apply guardI; · rfl) | (apply condT; · assumption) | (apply condF; · assumption) | (apply condNT; · assumption) | (apply condNF; · assumption)); conv => whnf)
    first | refine condGF (fun h1 => ?_) (fun h1 => ?_) | ((refine condI (fun h1 => ?_) (fun h1 => ?_)) <;> (try simp only [cond_true] at h1))
    · conv => whnf
      repeat ((first | (apply guardI; · rfl) | (apply condT; · assumption) | (apply condF; · assumption) | (apply condNT; · assumption) | (apply condNF; · assumption)); conv => whnf)
      first | exact ⟨rfl, rfl⟩ | exact rfl
    · conv => whnf
      repeat ((first | (apply guardI; · rfl) | (apply condT; · assumption) | (apply condF; · assumption) | (apply condNT; · assumption) | (apply condNF; · assumption)); conv => whnf)
      first | refine condGF (fun h2 => ?_) (fun h2 => ?_) | ((refine condI (fun h2 => ?_) (fun h2 => ?_)) <;> (try simp only [cond_true] at h2))
      · conv => whnf
        repeat ((first | (apply guardI; · rfl) | (apply condT; · assumption) | (apply condF; · assumption) | (apply condNT; · assumption) | (apply condNF; · assumption)); conv => whnf)
        first | exact ⟨rfl, rfl⟩ | exact rfl
      · simp at h1 h2 h; omega
  · conv => whnf
    repeat ((first | (apply guardI; · rfl) | (apply condT; · assumption) | (apply condF; · assumption) | (apply condNT; · assumption) | (apply condNF; · assumption)); conv => whnf)
    first | exact ⟨rfl, rfl⟩ | exact rfl

theorem e57 (l : Bs) : VEv Tryd.prog gl 57 [.d (bs l)] [] (.func 70 [] [.ptr 0 0]) [.box [.d (bs l)]] := by
  refine cp57.vev ?_
  conv => whnf
  repeat ((first | (apply guardI; · rfl) | (apply condT; · assumption) | (apply condF; · assumption) | (apply condNT; · assumption) | (apply condNF; · assumption)); conv => whnf)
  first | exact ⟨rfl, rfl⟩ | exact rfl

theorem or256 {a c : Nat} (ha : a < 72057594037927936) (hc : c < 256) :
    IntKind.u64.wrap (BitVec.ofInt IntKind.u64.bits (IntKind.u64.wrap ((a : Int) * 2 ^ (min (Int.toNat 8) IntKind.u64.bits))) ||| BitVec.ofInt IntKind.u64.bits (IntKind.u64.wrap (c : Int))).toNat = ((c + 256 * a : Nat) : Int) := by
  have w : ∀ n : Nat, n < 18446744073709551616 → IntKind.u64.wrap (n : Int) = (n : Int) := fun n hn => by
    unfold IntKind.wrap; simp [IntKind.signed, IntKind.bits]; omega
  have e1 : ((a : Int) * 2 ^ (min (Int.toNat 8) IntKind.u64.bits)) = ((a * 256 : Nat) : Int) := by
    simp [IntKind.bits]
  rw [e1, w (a * 256) (by omega), w c (by omega)]
  have e2 : ∀ n : Nat, n < 18446744073709551616 → (BitVec.ofInt IntKind.u64.bits (n : Int)).toNat = n := fun n hn => by
    simp [IntKind.bits, BitVec.toNat_ofInt]; omega
  rw [BitVec.toNat_or, e2 (a * 256) (by omega), e2 c (by omega)]
  have e3 : a * 256 ||| c = a * 256 + c := by
    have := Nat.shiftLeft_add_eq_or_of_lt (i := 8) (b := c) (by omega) a
    rw [Nat.shiftLeft_eq] at this
    exact this.symm
  rw [e3, w (a * 256 + c) (by omega)]
  omega

/-- The store while the number is read. -/
def rdrN (b : Bs) (bad : Bool) (acc : Int) (l : Bs) : Store := [.box [.d (bs b), .d (.bool bad)], .box [.d (.int .u64 acc)], .box [.d (bs l)], .dead]
def st70 (b : Bs) (bad : Bool) (acc : Int) (l : Bs) (x : Int) : St := mkS [(0, .yl 3), (1, .ptr 2 0), (3, .d (int x))] (rdrN b bad acc l)

theorem leV_drop {l : Bs} {i : Nat} (h : i < l.length) : leV (l.drop i) = l[i].toNat + 256 * leV (l.drop (i + 1)) := by
  rw [List.drop_eq_getElem_cons h]; rfl

theorem decI_cons (c : UInt8) (t : Bs) : decI (c :: t) = if 8 < szOfHead c then none else if t.length < szOfHead c then none else if badNum (t.take (szOfHead c)) then none else
      some (if 16 ≤ c.toNat then -1 - (leV (t.take (szOfHead c)) : Int) else (leV (t.take (szOfHead c)) : Int), t.drop (szOfHead c)) := rfl

theorem wrapV {n : Nat} (h : n < 9223372036854775808) : IntKind.i64.wrap (n : Int) = (n : Int) := by
  unfold IntKind.wrap; simp [IntKind.signed, IntKind.bits]; omega
theorem wrapW {n : Nat} (h : n < 9223372036854775808) : IntKind.i64.wrap (-1 - (n : Int)) = -1 - (n : Int) := by
  unfold IntKind.wrap; simp [IntKind.signed, IntKind.bits]; omega

/-- What is left where no number can be read. -/
def decR (b : Bs) : Bs := match b with
  | [] => []
  | c :: t => if 8 < szOfHead c then t else if t.length < szOfHead c then t else t.drop (szOfHead c)
theorem decR_cons (c : UInt8) (t : Bs) : decR (c :: t) = if 8 < szOfHead c then t else if t.length < szOfHead c then t else t.drop (szOfHead c) := rfl

def R30 (b : Bs) : Prop := (∀ n rest, decI b = some (n, rest) → VEv Tryd.prog gl 30 [.ptr 0 0] (rdr b false) (.d (int n)) (rdr rest false)) ∧
    (decI b = none → VEv Tryd.prog gl 30 [.ptr 0 0] (rdr b false) (.d (int 0)) (rdr (decR b) true))


end
end Go.Proofs.YthalcnhgnadmlaaDoor
