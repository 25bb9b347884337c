/- Bytes: numbers, texts. Conditions: none. -/
import Derived.Test.YthalcnhgnadmlaaDoorC7
set_option maxRecDepth 100000
namespace Go.Proofs.YthalcnhgnadmlaaDoor
open Go Go.Vm

/-- A number's bytes, the lowest first; at most so many. -/
def leF : Nat → Nat → Bs
  | 0, _ => []
  | f + 1, n => if n = 0 then [] else UInt8.ofNat n :: leF f (n / 256)

def magI (n : Int) : Nat := if n < 0 then (-1 - n).toNat else n.toNat
def encI (n : Int) : Bs := UInt8.ofNat ((leF 8 (magI n)).length + (if n < 0 then 16 else 0)) :: leF 8 (magI n)
def I64 (n : Int) : Prop := -9223372036854775808 ≤ n ∧ n < 9223372036854775808
def encTx (s : Bs) : Bs := encI s.length ++ s

theorem leF_zero : ∀ f, leF f 0 = []
  | 0 => rfl
  | f + 1 => by simp [leF]
theorem leF_len : ∀ f n, (leF f n).length ≤ f
  | 0, _ => by simp [leF]
  | f + 1, n => by
    simp only [leF]
    split
    · simp
    · simp only [List.length_cons]; have := leF_len f (n / 256); omega
theorem encI_len (n : Int) : (encI n).length ≤ 9 := by
  simp only [encI, List.length_cons]; have := leF_len 8 (magI n); omega
theorem magI_lt {n : Int} (h : I64 n) : magI n < 9223372036854775808 := by
  unfold magI; unfold I64 at h; split <;> omega
theorem leF_step {f n : Nat} (h : n ≠ 0) : leF (f + 1) n = UInt8.ofNat n :: leF f (n / 256) := by simp [leF, h]

theorem u8wrap (n : Nat) : IntKind.u8.wrap (n : Int) = ((UInt8.ofNat n).toNat : Int) := by
  unfold IntKind.wrap
  simp [IntKind.signed, IntKind.bits]
theorem byte_wrap (n : Nat) : D.int .u8 (IntKind.u8.wrap (n : Int)) = byteD (UInt8.ofNat n) := by rw [u8wrap]; rfl
theorem fdiv256 (n : Nat) : Int.fdiv (n : Int) 256 = ((n / 256 : Nat) : Int) := by
  rw [Int.fdiv_eq_ediv_of_nonneg _ (by omega)]; omega
theorem tdiv256 (n : Nat) : Int.tdiv (n : Int) 256 = ((n / 256 : Nat) : Int) := by
  rw [Int.tdiv_eq_ediv_of_nonneg (by omega)]; omega
theorem tmod256 (n : Nat) : Int.tmod (n : Int) 256 = ((n % 256 : Nat) : Int) := by
  rw [Int.tmod_eq_emod_of_nonneg (by omega)]; omega
theorem ofNat_mod (n : Nat) : UInt8.ofNat (n % 256) = UInt8.ofNat n := by
  apply UInt8.toNat_inj.1; simp

abbrev BND : Nat := 70368744177664

section
attribute [local irreducible] Int.decLt Int.decLe Int.instDecidableEq IntKind.wrap instDecidableEqList Int.fdiv Int.tdiv Int.tmod

def st44 (n : Int) (acc : Bs) : St := mkS [(0, .d (.int .u64 n)), (1, .d (int 0)), (5, .own 1 (acc.map byteD))] []
theorem e44 (n : Nat) (hn : n < 18446744073709551616) : VEv Tryd.prog gl 44 [.d (.int .u64 n), .d (int 0)] [] (.d (bs (leF 8 n))) [] := by
  refine cp44.vev ?_
  conv => whnf
  repeat ((first | (apply guardI; · rfl) | (apply condT; · assumption) | (apply condF; · assumption) | (apply condNT; · assumption) | (apply condNF; · assumption)); conv => whnf)
  refine ⟨fun f st => ∃ (m : Nat) (acc : Bs), f ≤ 8 ∧ acc ++ leF f m = leF 8 n ∧ m < 256 ^ f ∧ acc.length + f = 8 ∧ st = st44 m acc, 8, ⟨n, [], by omega, rfl, by simpa using hn, rfl, rfl⟩, ?_⟩
  rintro f _ ⟨m, acc, hf8, hacc, hm, hlen, rfl⟩
  conv => whnf
  repeat ((first | (apply guardI; · rfl) | (apply condT; · assumption) | (apply condF; · assumption) | (apply condNT; · assumption) | (apply condNF; · assumption)); conv => whnf)
  first | refine condGF (fun h => ?_) (fun h => ?_) | ((refine condI (fun h => ?_) (fun h => ?_)) <;> (try simp only [cond_true] at h))
  · conv => whnf
    repeat ((first | (apply guardI; · rfl) | (apply condT; · assumption) | (apply condF; · assumption) | (apply condNT; · assumption) | (apply condNF; · assumption)); conv => whnf)
    have h0 : m ≠ 0 := by simp at h; omega
    obtain ⟨f', rfl⟩ : ∃ f', f = f' + 1 := by
      cases f with
      | zero => simp at hm; omega
      | succ f => exact ⟨f, rfl⟩
    refine ⟨by simp; omega, ?_⟩
    conv => whnf
    repeat ((first | (apply guardI; · rfl) | (apply condT; · assumption) | (apply condF; · assumption) | (apply condNT; · assumption) | (apply condNF; · assumption)); conv => whnf)
    refine ⟨by kernel_rfl, ?_⟩
    conv => whnf
    repeat ((first | (apply guardI; · rfl) | (apply condT; · assumption) | (apply condF; · assumption) | (apply condNT; · assumption) | (apply condNF; · assumption)); conv => whnf)
    refine ⟨f', by omega, m / 256, acc ++ [UInt8.ofNat m], by omega, ?_, ?_, by simp; omega, ?_⟩
    · rw [← hacc, leF_step h0]; simp
    · rw [Nat.pow_succ] at hm; omega
    · have e1 : (acc.map byteD) ++ [D.int .u8 (IntKind.u8.wrap (m : Int))] = (acc ++ [UInt8.ofNat m]).map byteD := by rw [byte_wrap]; simp
      have e2 : st44 (Int.fdiv m 256) (acc ++ [UInt8.ofNat m]) = st44 ((m / 256 : Nat) : Int) (acc ++ [UInt8.ofNat m]) := by rw [fdiv256]
      rw [← e2]
      exact congrArg (fun l => (mkS [(0, .d (.int .u64 (Int.fdiv m 256))), (1, .d (int 0)), (5, .own 1 l)] [] : St)) e1
  · conv => whnf
    repeat ((first | (apply guardI; · rfl) | (apply condT; · assumption) | (apply condF; · assumption) | (apply condNT; · assumption) | (apply condNF; · assumption)); conv => whnf)
    refine condF (by simp) ?_
    conv => whnf
    repeat ((first | (apply guardI; · rfl) | (apply condT; · assumption) | (apply condF; · assumption) | (apply condNT; · assumption) | (apply condNF; · assumption)); conv => whnf)
    have h0 : m = 0 := by simp at h; omega
    subst h0
    rw [leF_zero, List.append_nil] at hacc
    rw [← hacc]
    exact ⟨rfl, rfl⟩

def st37 (n s : Int) (acc : Bs) : St := mkS [(0, .d (int n)), (3, .d (int s)), (4, .own 1 (acc.map byteD))] []
theorem e37 (n : Int) (hn : I64 n) : VEv Tryd.prog gl 37 [.d (int n)] [] (.own 1 ((encI n).map byteD)) [] := by
  have hmag := magI_lt hn
  have hlen := leF_len 8 (magI n)
  unfold I64 at hn
  refine cp37.vev ?_
  conv => whnf
  repeat ((first | (apply guardI; · rfl) | (apply condT; · assumption) | (apply condF; · assumption) | (apply condNT; · assumption) | (apply condNF; · assumption)); conv => whnf)
  first | refine condGF (fun h => ?_) (fun h => ?_) | ((refine condI (fun h => ?_) (fun h => ?_)) <;> (try simp only [cond_true] at h))
  · conv => whnf
    repeat ((first | (apply guardI; · rfl) | (apply condT; · assumption) | (apply condF; · assumption) | (apply condNT; · assumption) | (apply condNF; · assumption)); conv => whnf)
    have h' : n < 0 := by simpa using h
    have hw : IntKind.i64.wrap (-1 - n) = (magI n : Nat) := by
      have : magI n = (-1 - n).toNat := by simp [magI, h']
      rw [this]; unfold IntKind.wrap; simp [IntKind.signed, IntKind.bits]; omega
    refine ⟨fun f st => ∃ (m : Nat) (acc : Bs), acc ++ leF f m = leF 8 (magI n) ∧ m < 256 ^ f ∧ m < 9223372036854775808 ∧ acc.length + f = 8 ∧ st = st37 m 16 acc, 8, ⟨magI n, [], rfl, by omega, hmag, rfl, ?_⟩, ?_⟩
    · exact congrArg (fun k => (mkS [(0, .d (int k)), (3, .d (int 16)), (4, .own 1 [])] [] : St)) hw
    rintro f _ ⟨m, acc, hacc, hm, hm2, hal, rfl⟩
    conv => whnf
    repeat ((first | (apply guardI; · rfl) | (apply condT; · assumption) | (apply condF; · assumption) | (apply condNT; · assumption) | (apply condNF; · assumption)); conv => whnf)
    first | refine condGF (fun h2 => ?_) (fun h2 => ?_) | ((refine condI (fun h2 => ?_) (fun h2 => ?_)) <;> (try simp only [cond_true] at h2))
    · conv => whnf
      repeat ((first | (apply guardI; · rfl) | (apply condT; · assumption) | (apply condF; · assumption) | (apply condNT; · assumption) | (apply condNF; · assumption)); conv => whnf)
      have h0 : m ≠ 0 := by simp at h2; omega
      obtain ⟨f', rfl⟩ : ∃ f', f = f' + 1 := by
        cases f with
        | zero => simp at hm; omega
        | succ f => exact ⟨f, rfl⟩
      refine ⟨by kernel_rfl, ?_⟩
      conv => whnf
      repeat ((first | (apply guardI; · rfl) | (apply condT; · assumption) | (apply condF; · assumption) | (apply condNT; · assumption) | (apply condNF; · assumption)); conv => whnf)
      refine ⟨by simp; omega, ?_⟩
      conv => whnf
      repeat ((first | (apply guardI; · rfl) | (apply condT; · assumption) | (apply condF; · assumption) | (apply condNT; · assumption) | (apply condNF; · assumption)); conv => whnf)
      refine ⟨by kernel_rfl, ?_⟩
      conv => whnf
      repeat ((first | (apply guardI; · rfl) | (apply condT; · assumption) | (apply condF; · assumption) | (apply condNT; · assumption) | (apply condNF; · assumption)); conv => whnf)
      refine ⟨f', by omega, m / 256, acc ++ [UInt8.ofNat m], ?_, ?_, by omega, by simp; omega, ?_⟩
      · rw [← hacc, leF_step h0]; simp
      · rw [Nat.pow_succ] at hm; omega
      · have e1 : (acc.map byteD) ++ [D.int .u8 (IntKind.u8.wrap (Int.tmod m 256))] = (acc ++ [UInt8.ofNat m]).map byteD := by rw [tmod256, byte_wrap, ofNat_mod]; simp
        have e2 : st37 (IntKind.i64.wrap (Int.tdiv m 256)) 16 (acc ++ [UInt8.ofNat m]) = st37 ((m / 256 : Nat) : Int) 16 (acc ++ [UInt8.ofNat m]) := by rw [tdiv256, wrapI (by omega) (by omega)]
        rw [← e2]
        exact congrArg (fun l => (mkS [(0, .d (int (IntKind.i64.wrap (Int.tdiv m 256)))), (3, .d (int 16)), (4, .own 1 l)] [] : St)) e1
    · conv => whnf
      repeat ((first | (apply guardI; · rfl) | (apply condT; · assumption) | (apply condF; · assumption) | (apply condNT; · assumption) | (apply condNF; · assumption)); conv => whnf)
      have h0 : m = 0 := by simp at h2; omega
      subst h0
      rw [leF_zero, List.append_nil] at hacc
      subst hacc
      refine ⟨by simp; omega, ?_⟩
      conv => whnf
      repeat ((first | (apply guardI; · rfl) | (apply condT; · assumption) | (apply condF; · assumption) | (apply condNT; · assumption) | (apply condNF; · assumption)); conv => whnf)
      refine ⟨show Val.own 1 ([D.int .u8 (IntKind.u8.wrap (IntKind.i64.wrap (16 + (((leF 8 (magI n)).map byteD).length : Int))))] ++ (leF 8 (magI n)).map byteD) = _ from ?_, rfl⟩
      have e : IntKind.i64.wrap (16 + (((leF 8 (magI n)).map byteD).length : Int)) = (((leF 8 (magI n)).length + 16 : Nat) : Int) := by
        rw [List.length_map, wrapI (by omega) (by omega)]; omega
      rw [e, byte_wrap]
      simp [encI, bs, h']
  · conv => whnf
    repeat ((first | (apply guardI; · rfl) | (apply condT; · assumption) | (apply condF; · assumption) | (apply condNT; · assumption) | (apply condNF; · assumption)); conv => whnf)
    have h' : ¬ n < 0 := by simpa using h
    have hw : n = (magI n : Nat) := by
      have : magI n = n.toNat := by simp [magI, h']
      rw [this]; omega
    refine ⟨fun f st => ∃ (m : Nat) (acc : Bs), acc ++ leF f m = leF 8 (magI n) ∧ m < 256 ^ f ∧ m < 9223372036854775808 ∧ acc.length + f = 8 ∧ st = st37 m 0 acc, 8, ⟨magI n, [], rfl, by omega, hmag, rfl, ?_⟩, ?_⟩
    · exact congrArg (fun k => (mkS [(0, .d (int k)), (3, .d (int 0)), (4, .own 1 [])] [] : St)) hw
    rintro f _ ⟨m, acc, hacc, hm, hm2, hal, rfl⟩
    conv => whnf
    repeat ((first | (apply guardI; · rfl) | (apply condT; · assumption) | (apply condF; · assumption) | (apply condNT; · assumption) | (apply condNF; · assumption)); conv => whnf)
    first | refine condGF (fun h2 => ?_) (fun h2 => ?_) | ((refine condI (fun h2 => ?_) (fun h2 => ?_)) <;> (try simp only [cond_true] at h2))
    · conv => whnf
      repeat ((first | (apply guardI; · rfl) | (apply condT; · assumption) | (apply condF; · assumption) | (apply condNT; · assumption) | (apply condNF; · assumption)); conv => whnf)
      have h0 : m ≠ 0 := by simp at h2; omega
      obtain ⟨f', rfl⟩ : ∃ f', f = f' + 1 := by
        cases f with
        | zero => simp at hm; omega
        | succ f => exact ⟨f, rfl⟩
      refine ⟨by kernel_rfl, ?_⟩
      conv => whnf
      repeat ((first | (apply guardI; · rfl) | (apply condT; · assumption) | (apply condF; · assumption) | (apply condNT; · assumption) | (apply condNF; · assumption)); conv => whnf)
      refine ⟨by simp; omega, ?_⟩
      conv => whnf
      repeat ((first | (apply guardI; · rfl) | (apply condT; · assumption) | (apply condF; · assumption) | (apply condNT; · assumption) | (apply condNF; · assumption)); conv => whnf)
      refine ⟨by kernel_rfl, ?_⟩
      conv => whnf
      repeat ((first | (apply guardI; · rfl) | (apply condT; · assumption) | (apply condF; · assumption) | (apply condNT; · assumption) | (apply condNF; · assumption)); conv => whnf)
      refine ⟨f', by omega, m / 256, acc ++ [UInt8.ofNat m], ?_, ?_, by omega, by simp; omega, ?_⟩
      · rw [← hacc, leF_step h0]; simp
      · rw [Nat.pow_succ] at hm; omega
      · have e1 : (acc.map byteD) ++ [D.int .u8 (IntKind.u8.wrap (Int.tmod m 256))] = (acc ++ [UInt8.ofNat m]).map byteD := by rw [tmod256, byte_wrap, ofNat_mod]; simp
        have e2 : st37 (IntKind.i64.wrap (Int.tdiv m 256)) 0 (acc ++ [UInt8.ofNat m]) = st37 ((m / 256 : Nat) : Int) 0 (acc ++ [UInt8.ofNat m]) := by rw [tdiv256, wrapI (by omega) (by omega)]
        rw [← e2]
        exact congrArg (fun l => (mkS [(0, .d (int (IntKind.i64.wrap (Int.tdiv m 256)))), (3, .d (int 0)), (4, .own 1 l)] [] : St)) e1
    · conv => whnf
      repeat ((first | (apply guardI; · rfl) | (apply condT; · assumption) | (apply condF; · assumption) | (apply condNT; · assumption) | (apply condNF; · assumption)); conv => whnf)
      have h0 : m = 0 := by simp at h2; omega
      subst h0
      rw [leF_zero, List.append_nil] at hacc
      subst hacc
      refine ⟨by simp; omega, ?_⟩
      conv => whnf
      repeat ((first | (apply guardI; · rfl) | (apply condT; · assumption) | (apply condF; · assumption) | (apply condNT; · assumption) | (apply condNF; · assumption)); conv => whnf)
      refine ⟨show Val.own 1 ([D.int .u8 (IntKind.u8.wrap (IntKind.i64.wrap (0 + (((leF 8 (magI n)).map byteD).length : Int))))] ++ (leF 8 (magI n)).map byteD) = _ from ?_, rfl⟩
      have e : IntKind.i64.wrap (0 + (((leF 8 (magI n)).map byteD).length : Int)) = (((leF 8 (magI n)).length + 0 : Nat) : Int) := by
        rw [List.length_map, wrapI (by omega) (by omega)]; omega
      rw [e, byte_wrap]
      simp [encI, bs, h']

end
end Go.Proofs.YthalcnhgnadmlaaDoor
