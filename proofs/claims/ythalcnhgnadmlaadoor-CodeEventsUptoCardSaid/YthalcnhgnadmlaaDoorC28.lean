/- Bytes: an event is read. Conditions: none. -/
import Derived.Test.YthalcnhgnadmlaaDoorC27
set_option maxRecDepth 100000
namespace Go.Proofs.YthalcnhgnadmlaaDoor
open Go Go.Vm

theorem callK {P : Program} {gl : Nat → List D} {f : Nat} {args args' : List Val} {st st' : Store} {r : Val} {s' : Store} (c : VEv P gl f args st r s') (ha : args = args') (hs : st = st') {K : Val → Store → Prop} (hK : K r s') : ∃ r s', VEv P gl f args' st' r s' ∧ K r s' := by
  subst ha; subst hs; exact ⟨r, s', c, hK⟩
theorem partS_le (s : RS) : (partS s).2.b.length ≤ s.b.length := col_len s |>.2
def doneB (q : RS) : Bool := !q.bad && decide (((q.b.map byteD).length : Int) = 0)

def rk1 (s : RS) : Ev × RS := ({ zE 1 with text := (textS s).1 }, (textS s).2)
noncomputable def rk2 (s : RS) : Ev × RS := ({ zE 2 with pa := (partS s).1.a, pi := (partS s).1.i, s := (tabS (partS s).2).1.s, r := (tabS (partS s).2).1.r }, (tabS (partS s).2).2)
def rk3 (s : RS) : Ev × RS := ({ zE 3 with n := (intS s).1 }, (intS s).2)
def rk4 (s : RS) : Ev × RS := ({ zE 4 with text := (textS s).1, n := (intS (textS s).2).1, ps := (partsS (intS (textS s).2).2).1, flag := decide ((countS (partsS (intS (textS s).2).2).2 1).1 = 1) }, (countS (partsS (intS (textS s).2).2).2 1).2)
def rk5 (s : RS) : Ev × RS := ({ zE 5 with ps := (partsS s).1, flag := decide ((countS (partsS s).2 1).1 = 1) }, (countS (partsS s).2 1).2)
def rk6 (s : RS) : Ev × RS := ({ zE 6 with id := (intS s).1 }, (intS s).2)
def rk7 (s : RS) : Ev × RS := ({ zE 7 with pa := (partS s).1.a, pi := (partS s).1.i }, (partS s).2)
noncomputable def rk8 (s : RS) : Ev × RS := ({ zE 8 with id := (intS s).1, s := (tabS (intS s).2).1.s, r := (tabS (intS s).2).1.r }, (tabS (intS s).2).2)
def rk9 (s : RS) : Ev × RS := ({ zE 9 with id := (intS s).1, n := (intS (intS s).2).1, err := (intS (intS (intS s).2).2).1, flag := decide ((countS (intS (intS (intS s).2).2).2 1).1 = 1) }, (countS (intS (intS (intS s).2).2).2 1).2)
def rk10 (s : RS) : Ev × RS := ({ zE 10 with id := (intS s).1 }, (intS s).2)
def rk11 (s : RS) : Ev × RS := ({ zE 11 with flag := decide ((countS s 1).1 = 1) }, (countS s 1).2)
def rk12 (s : RS) : Ev × RS := (zE 12, s)
def rk13 (s : RS) : Ev × RS := (zE 13, s)
set_option maxHeartbeats 2000000 in
theorem e14k1 (b : Bs) (hb : b.length < SM) (s : RS) (hI : intS ⟨b, false⟩ = (1, s)) (d : Bool) (hd : doneB (rk1 s).2 = d) : VEv Tryd.prog gl 14 [.d (bs b)] [] (.tuple [.d (cond d (rk1 s).1 (zE 0)).d, .d (int (cond d 0 20))]) [] := by
  have h29 := e29 b hb
  have h30 := e30s ⟨b, false⟩
  have hle := intS_le ⟨b, false⟩
  rw [hI] at h30 hle
  have hle : s.b.length ≤ b.length := hle
  have h36 := e36 (rk1 s).2
  have hd2 : (!(rk1 s).2.bad && decide ((((rk1 s).2.b.map byteD).length : Int) = 0)) = d := hd
  rw [hd2] at h36
  clear hd hd2
  unfold rk1 at h36 ⊢
  dsimp only at h36 ⊢
  have c0 := e31 s
  generalize (textS s) = w0 at c0 h36 ⊢
  clear hI
  cases d
  · refine cp14.vev ?_
    conv => whnf
    repeat ((first | (apply guardI; · kernel_rfl) | (apply condT; · assumption) | (apply condF; · assumption) | (apply condNT; · assumption) | (apply condNF; · assumption)); conv => whnf)
    refine ⟨_, _, h29, ?_⟩
    conv => whnf
    repeat ((first | (apply guardI; · kernel_rfl) | (apply condT; · assumption) | (apply condF; · assumption) | (apply condNT; · assumption) | (apply condNF; · assumption)); conv => whnf)
    refine ⟨_, _, h30, ?_⟩
    conv => whnf
    repeat ((first | (apply guardI; · kernel_rfl) | (apply condT; · assumption) | (apply condF; · assumption) | (apply condNT; · assumption) | (apply condNF; · assumption)); conv => whnf)
    refine ⟨_, _, e23 1, ?_⟩
    conv => whnf
    repeat ((first | (apply guardI; · kernel_rfl) | (apply condT; · assumption) | (apply condF; · assumption) | (apply condNT; · assumption) | (apply condNF; · assumption)); conv => whnf)
    refine callK (c0) (by kernel_rfl) (by kernel_rfl) ?_
    conv => whnf
    repeat ((first | (apply guardI; · kernel_rfl) | (apply condT; · assumption) | (apply condF; · assumption) | (apply condNT; · assumption) | (apply condNF; · assumption)); conv => whnf)
    refine callK (h36) (by kernel_rfl) (by kernel_rfl) ?_
    conv => whnf
    repeat ((first | (apply guardI; · kernel_rfl) | (apply condT; · assumption) | (apply condF; · assumption) | (apply condNT; · assumption) | (apply condNF; · assumption)); conv => whnf)
    exact ⟨by kernel_rfl, by kernel_rfl⟩
  · refine cp14.vev ?_
    conv => whnf
    repeat ((first | (apply guardI; · kernel_rfl) | (apply condT; · assumption) | (apply condF; · assumption) | (apply condNT; · assumption) | (apply condNF; · assumption)); conv => whnf)
    refine ⟨_, _, h29, ?_⟩
    conv => whnf
    repeat ((first | (apply guardI; · kernel_rfl) | (apply condT; · assumption) | (apply condF; · assumption) | (apply condNT; · assumption) | (apply condNF; · assumption)); conv => whnf)
    refine ⟨_, _, h30, ?_⟩
    conv => whnf
    repeat ((first | (apply guardI; · kernel_rfl) | (apply condT; · assumption) | (apply condF; · assumption) | (apply condNT; · assumption) | (apply condNF; · assumption)); conv => whnf)
    refine ⟨_, _, e23 1, ?_⟩
    conv => whnf
    repeat ((first | (apply guardI; · kernel_rfl) | (apply condT; · assumption) | (apply condF; · assumption) | (apply condNT; · assumption) | (apply condNF; · assumption)); conv => whnf)
    refine callK (c0) (by kernel_rfl) (by kernel_rfl) ?_
    conv => whnf
    repeat ((first | (apply guardI; · kernel_rfl) | (apply condT; · assumption) | (apply condF; · assumption) | (apply condNT; · assumption) | (apply condNF; · assumption)); conv => whnf)
    refine callK (h36) (by kernel_rfl) (by kernel_rfl) ?_
    conv => whnf
    repeat ((first | (apply guardI; · kernel_rfl) | (apply condT; · assumption) | (apply condF; · assumption) | (apply condNT; · assumption) | (apply condNF; · assumption)); conv => whnf)
    exact ⟨by kernel_rfl, by kernel_rfl⟩

set_option maxHeartbeats 2000000 in
theorem e14k2 (b : Bs) (hb : b.length < SM) (s : RS) (hI : intS ⟨b, false⟩ = (2, s)) (d : Bool) (hd : doneB (rk2 s).2 = d) : VEv Tryd.prog gl 14 [.d (bs b)] [] (.tuple [.d (cond d (rk2 s).1 (zE 0)).d, .d (int (cond d 0 20))]) [] := by
  have h29 := e29 b hb
  have h30 := e30s ⟨b, false⟩
  have hle := intS_le ⟨b, false⟩
  rw [hI] at h30 hle
  have hle : s.b.length ≤ b.length := hle
  have h36 := e36 (rk2 s).2
  have hd2 : (!(rk2 s).2.bad && decide ((((rk2 s).2.b.map byteD).length : Int) = 0)) = d := hd
  rw [hd2] at h36
  clear hd hd2
  unfold rk2 at h36 ⊢
  dsimp only at h36 ⊢
  have c0 := e32 s
  have c1 := e33 (partS s).2 (Nat.lt_of_le_of_lt (Nat.le_trans (partS_le s) hle) hb)
  generalize (tabS (partS s).2) = w1 at c1 h36 ⊢
  generalize (partS s) = w0 at c0 c1 ⊢
  clear hI
  cases d
  · refine cp14.vev ?_
    conv => whnf
    repeat ((first | (apply guardI; · kernel_rfl) | (apply condT; · assumption) | (apply condF; · assumption) | (apply condNT; · assumption) | (apply condNF; · assumption)); conv => whnf)
    refine ⟨_, _, h29, ?_⟩
    conv => whnf
    repeat ((first | (apply guardI; · kernel_rfl) | (apply condT; · assumption) | (apply condF; · assumption) | (apply condNT; · assumption) | (apply condNF; · assumption)); conv => whnf)
    refine ⟨_, _, h30, ?_⟩
    conv => whnf
    repeat ((first | (apply guardI; · kernel_rfl) | (apply condT; · assumption) | (apply condF; · assumption) | (apply condNT; · assumption) | (apply condNF; · assumption)); conv => whnf)
    refine ⟨_, _, e23 2, ?_⟩
    conv => whnf
    repeat ((first | (apply guardI; · kernel_rfl) | (apply condT; · assumption) | (apply condF; · assumption) | (apply condNT; · assumption) | (apply condNF; · assumption)); conv => whnf)
    refine callK (c0) (by kernel_rfl) (by kernel_rfl) ?_
    conv => whnf
    repeat ((first | (apply guardI; · kernel_rfl) | (apply condT; · assumption) | (apply condF; · assumption) | (apply condNT; · assumption) | (apply condNF; · assumption)); conv => whnf)
    refine callK (c1) (by kernel_rfl) (by kernel_rfl) ?_
    conv => whnf
    repeat ((first | (apply guardI; · kernel_rfl) | (apply condT; · assumption) | (apply condF; · assumption) | (apply condNT; · assumption) | (apply condNF; · assumption)); conv => whnf)
    refine callK (h36) (by kernel_rfl) (by kernel_rfl) ?_
    conv => whnf
    repeat ((first | (apply guardI; · kernel_rfl) | (apply condT; · assumption) | (apply condF; · assumption) | (apply condNT; · assumption) | (apply condNF; · assumption)); conv => whnf)
    exact ⟨by kernel_rfl, by kernel_rfl⟩
  · refine cp14.vev ?_
    conv => whnf
    repeat ((first | (apply guardI; · kernel_rfl) | (apply condT; · assumption) | (apply condF; · assumption) | (apply condNT; · assumption) | (apply condNF; · assumption)); conv => whnf)
    refine ⟨_, _, h29, ?_⟩
    conv => whnf
    repeat ((first | (apply guardI; · kernel_rfl) | (apply condT; · assumption) | (apply condF; · assumption) | (apply condNT; · assumption) | (apply condNF; · assumption)); conv => whnf)
    refine ⟨_, _, h30, ?_⟩
    conv => whnf
    repeat ((first | (apply guardI; · kernel_rfl) | (apply condT; · assumption) | (apply condF; · assumption) | (apply condNT; · assumption) | (apply condNF; · assumption)); conv => whnf)
    refine ⟨_, _, e23 2, ?_⟩
    conv => whnf
    repeat ((first | (apply guardI; · kernel_rfl) | (apply condT; · assumption) | (apply condF; · assumption) | (apply condNT; · assumption) | (apply condNF; · assumption)); conv => whnf)
    refine callK (c0) (by kernel_rfl) (by kernel_rfl) ?_
    conv => whnf
    repeat ((first | (apply guardI; · kernel_rfl) | (apply condT; · assumption) | (apply condF; · assumption) | (apply condNT; · assumption) | (apply condNF; · assumption)); conv => whnf)
    refine callK (c1) (by kernel_rfl) (by kernel_rfl) ?_
    conv => whnf
    repeat ((first | (apply guardI; · kernel_rfl) | (apply condT; · assumption) | (apply condF; · assumption) | (apply condNT; · assumption) | (apply condNF; · assumption)); conv => whnf)
    refine callK (h36) (by kernel_rfl) (by kernel_rfl) ?_
    conv => whnf
    repeat ((first | (apply guardI; · kernel_rfl) | (apply condT; · assumption) | (apply condF; · assumption) | (apply condNT; · assumption) | (apply condNF; · assumption)); conv => whnf)
    exact ⟨by kernel_rfl, by kernel_rfl⟩

set_option maxHeartbeats 2000000 in
theorem e14k3 (b : Bs) (hb : b.length < SM) (s : RS) (hI : intS ⟨b, false⟩ = (3, s)) (d : Bool) (hd : doneB (rk3 s).2 = d) : VEv Tryd.prog gl 14 [.d (bs b)] [] (.tuple [.d (cond d (rk3 s).1 (zE 0)).d, .d (int (cond d 0 20))]) [] := by
  have h29 := e29 b hb
  have h30 := e30s ⟨b, false⟩
  have hle := intS_le ⟨b, false⟩
  rw [hI] at h30 hle
  have hle : s.b.length ≤ b.length := hle
  have h36 := e36 (rk3 s).2
  have hd2 : (!(rk3 s).2.bad && decide ((((rk3 s).2.b.map byteD).length : Int) = 0)) = d := hd
  rw [hd2] at h36
  clear hd hd2
  unfold rk3 at h36 ⊢
  dsimp only at h36 ⊢
  have c0 := e30s s
  generalize (intS s) = w0 at c0 h36 ⊢
  clear hI
  cases d
  · refine cp14.vev ?_
    conv => whnf
    repeat ((first | (apply guardI; · kernel_rfl) | (apply condT; · assumption) | (apply condF; · assumption) | (apply condNT; · assumption) | (apply condNF; · assumption)); conv => whnf)
    refine ⟨_, _, h29, ?_⟩
    conv => whnf
    repeat ((first | (apply guardI; · kernel_rfl) | (apply condT; · assumption) | (apply condF; · assumption) | (apply condNT; · assumption) | (apply condNF; · assumption)); conv => whnf)
    refine ⟨_, _, h30, ?_⟩
    conv => whnf
    repeat ((first | (apply guardI; · kernel_rfl) | (apply condT; · assumption) | (apply condF; · assumption) | (apply condNT; · assumption) | (apply condNF; · assumption)); conv => whnf)
    refine ⟨_, _, e23 3, ?_⟩
    conv => whnf
    repeat ((first | (apply guardI; · kernel_rfl) | (apply condT; · assumption) | (apply condF; · assumption) | (apply condNT; · assumption) | (apply condNF; · assumption)); conv => whnf)
    refine callK (c0) (by kernel_rfl) (by kernel_rfl) ?_
    conv => whnf
    repeat ((first | (apply guardI; · kernel_rfl) | (apply condT; · assumption) | (apply condF; · assumption) | (apply condNT; · assumption) | (apply condNF; · assumption)); conv => whnf)
    refine callK (h36) (by kernel_rfl) (by kernel_rfl) ?_
    conv => whnf
    repeat ((first | (apply guardI; · kernel_rfl) | (apply condT; · assumption) | (apply condF; · assumption) | (apply condNT; · assumption) | (apply condNF; · assumption)); conv => whnf)
    exact ⟨by kernel_rfl, by kernel_rfl⟩
  · refine cp14.vev ?_
    conv => whnf
    repeat ((first | (apply guardI; · kernel_rfl) | (apply condT; · assumption) | (apply condF; · assumption) | (apply condNT; · assumption) | (apply condNF; · assumption)); conv => whnf)
    refine ⟨_, _, h29, ?_⟩
    conv => whnf
    repeat ((first | (apply guardI; · kernel_rfl) | (apply condT; · assumption) | (apply condF; · assumption) | (apply condNT; · assumption) | (apply condNF; · assumption)); conv => whnf)
    refine ⟨_, _, h30, ?_⟩
    conv => whnf
    repeat ((first | (apply guardI; · kernel_rfl) | (apply condT; · assumption) | (apply condF; · assumption) | (apply condNT; · assumption) | (apply condNF; · assumption)); conv => whnf)
    refine ⟨_, _, e23 3, ?_⟩
    conv => whnf
    repeat ((first | (apply guardI; · kernel_rfl) | (apply condT; · assumption) | (apply condF; · assumption) | (apply condNT; · assumption) | (apply condNF; · assumption)); conv => whnf)
    refine callK (c0) (by kernel_rfl) (by kernel_rfl) ?_
    conv => whnf
    repeat ((first | (apply guardI; · kernel_rfl) | (apply condT; · assumption) | (apply condF; · assumption) | (apply condNT; · assumption) | (apply condNF; · assumption)); conv => whnf)
    refine callK (h36) (by kernel_rfl) (by kernel_rfl) ?_
    conv => whnf
    repeat ((first | (apply guardI; · kernel_rfl) | (apply condT; · assumption) | (apply condF; · assumption) | (apply condNT; · assumption) | (apply condNF; · assumption)); conv => whnf)
    exact ⟨by kernel_rfl, by kernel_rfl⟩

set_option maxHeartbeats 2000000 in
theorem e14k4 (b : Bs) (hb : b.length < SM) (s : RS) (hI : intS ⟨b, false⟩ = (4, s)) (d : Bool) (hd : doneB (rk4 s).2 = d) : VEv Tryd.prog gl 14 [.d (bs b)] [] (.tuple [.d (cond d (rk4 s).1 (zE 0)).d, .d (int (cond d 0 20))]) [] := by
  have h29 := e29 b hb
  have h30 := e30s ⟨b, false⟩
  have hle := intS_le ⟨b, false⟩
  rw [hI] at h30 hle
  have hle : s.b.length ≤ b.length := hle
  have h36 := e36 (rk4 s).2
  have hd2 : (!(rk4 s).2.bad && decide ((((rk4 s).2.b.map byteD).length : Int) = 0)) = d := hd
  rw [hd2] at h36
  clear hd hd2
  unfold rk4 at h36 ⊢
  dsimp only at h36 ⊢
  have c0 := e31 s
  have c1 := e30s (textS s).2
  have c2 := e34 (intS (textS s).2).2
  have c3 := e35 (partsS (intS (textS s).2).2).2
  generalize (countS (partsS (intS (textS s).2).2).2 1) = w3 at c3 h36 ⊢
  generalize (partsS (intS (textS s).2).2) = w2 at c2 c3 ⊢
  generalize (intS (textS s).2) = w1 at c1 c2 ⊢
  generalize (textS s) = w0 at c0 c1 ⊢
  clear hI
  cases d
  · refine cp14.vev ?_
    conv => whnf
    repeat ((first | (apply guardI; · kernel_rfl) | (apply condT; · assumption) | (apply condF; · assumption) | (apply condNT; · assumption) | (apply condNF; · assumption)); conv => whnf)
    refine ⟨_, _, h29, ?_⟩
    conv => whnf
    repeat ((first | (apply guardI; · kernel_rfl) | (apply condT; · assumption) | (apply condF; · assumption) | (apply condNT; · assumption) | (apply condNF; · assumption)); conv => whnf)
    refine ⟨_, _, h30, ?_⟩
    conv => whnf
    repeat ((first | (apply guardI; · kernel_rfl) | (apply condT; · assumption) | (apply condF; · assumption) | (apply condNT; · assumption) | (apply condNF; · assumption)); conv => whnf)
    refine ⟨_, _, e23 4, ?_⟩
    conv => whnf
    repeat ((first | (apply guardI; · kernel_rfl) | (apply condT; · assumption) | (apply condF; · assumption) | (apply condNT; · assumption) | (apply condNF; · assumption)); conv => whnf)
    refine callK (c0) (by kernel_rfl) (by kernel_rfl) ?_
    conv => whnf
    repeat ((first | (apply guardI; · kernel_rfl) | (apply condT; · assumption) | (apply condF; · assumption) | (apply condNT; · assumption) | (apply condNF; · assumption)); conv => whnf)
    refine callK (c1) (by kernel_rfl) (by kernel_rfl) ?_
    conv => whnf
    repeat ((first | (apply guardI; · kernel_rfl) | (apply condT; · assumption) | (apply condF; · assumption) | (apply condNT; · assumption) | (apply condNF; · assumption)); conv => whnf)
    refine callK (c2) (by kernel_rfl) (by kernel_rfl) ?_
    conv => whnf
    repeat ((first | (apply guardI; · kernel_rfl) | (apply condT; · assumption) | (apply condF; · assumption) | (apply condNT; · assumption) | (apply condNF; · assumption)); conv => whnf)
    refine callK (c3) (by kernel_rfl) (by kernel_rfl) ?_
    conv => whnf
    repeat ((first | (apply guardI; · kernel_rfl) | (apply condT; · assumption) | (apply condF; · assumption) | (apply condNT; · assumption) | (apply condNF; · assumption)); conv => whnf)
    refine callK (h36) (by kernel_rfl) (by kernel_rfl) ?_
    conv => whnf
    repeat ((first | (apply guardI; · kernel_rfl) | (apply condT; · assumption) | (apply condF; · assumption) | (apply condNT; · assumption) | (apply condNF; · assumption)); conv => whnf)
    exact ⟨by kernel_rfl, by kernel_rfl⟩
  · refine cp14.vev ?_
    conv => whnf
    repeat ((first | (apply guardI; · kernel_rfl) | (apply condT; · assumption) | (apply condF; · assumption) | (apply condNT; · assumption) | (apply condNF; · assumption)); conv => whnf)
    refine ⟨_, _, h29, ?_⟩
    conv => whnf
    repeat ((first | (apply guardI; · kernel_rfl) | (apply condT; · assumption) | (apply condF; · assumption) | (apply condNT; · assumption) | (apply condNF; · assumption)); conv => whnf)
    refine ⟨_, _, h30, ?_⟩
    conv => whnf
    repeat ((first | (apply guardI; · kernel_rfl) | (apply condT; · assumption) | (apply condF; · assumption) | (apply condNT; · assumption) | (apply condNF; · assumption)); conv => whnf)
    refine ⟨_, _, e23 4, ?_⟩
    conv => whnf
    repeat ((first | (apply guardI; · kernel_rfl) | (apply condT; · assumption) | (apply condF; · assumption) | (apply condNT; · assumption) | (apply condNF; · assumption)); conv => whnf)
    refine callK (c0) (by kernel_rfl) (by kernel_rfl) ?_
    conv => whnf
    repeat ((first | (apply guardI; · kernel_rfl) | (apply condT; · assumption) | (apply condF; · assumption) | (apply condNT; · assumption) | (apply condNF; · assumption)); conv => whnf)
    refine callK (c1) (by kernel_rfl) (by kernel_rfl) ?_
    conv => whnf
    repeat ((first | (apply guardI; · kernel_rfl) | (apply condT; · assumption) | (apply condF; · assumption) | (apply condNT; · assumption) | (apply condNF; · assumption)); conv => whnf)
    refine callK (c2) (by kernel_rfl) (by kernel_rfl) ?_
    conv => whnf
    repeat ((first | (apply guardI; · kernel_rfl) | (apply condT; · assumption) | (apply condF; · assumption) | (apply condNT; · assumption) | (apply condNF; · assumption)); conv => whnf)
    refine callK (c3) (by kernel_rfl) (by kernel_rfl) ?_
    conv => whnf
    repeat ((first | (apply guardI; · kernel_rfl) | (apply condT; · assumption) | (apply condF; · assumption) | (apply condNT; · assumption) | (apply condNF; · assumption)); conv => whnf)
    refine callK (h36) (by kernel_rfl) (by kernel_rfl) ?_
    conv => whnf
    repeat ((first | (apply guardI; · kernel_rfl) | (apply condT; · assumption) | (apply condF; · assumption) | (apply condNT; · assumption) | (apply condNF; · assumption)); conv => whnf)
    exact ⟨by kernel_rfl, by kernel_rfl⟩

set_option maxHeartbeats 2000000 in
theorem e14k5 (b : Bs) (hb : b.length < SM) (s : RS) (hI : intS ⟨b, false⟩ = (5, s)) (d : Bool) (hd : doneB (rk5 s).2 = d) : VEv Tryd.prog gl 14 [.d (bs b)] [] (.tuple [.d (cond d (rk5 s).1 (zE 0)).d, .d (int (cond d 0 20))]) [] := by
  have h29 := e29 b hb
  have h30 := e30s ⟨b, false⟩
  have hle := intS_le ⟨b, false⟩
  rw [hI] at h30 hle
  have hle : s.b.length ≤ b.length := hle
  have h36 := e36 (rk5 s).2
  have hd2 : (!(rk5 s).2.bad && decide ((((rk5 s).2.b.map byteD).length : Int) = 0)) = d := hd
  rw [hd2] at h36
  clear hd hd2
  unfold rk5 at h36 ⊢
  dsimp only at h36 ⊢
  have c0 := e34 s
  have c1 := e35 (partsS s).2
  generalize (countS (partsS s).2 1) = w1 at c1 h36 ⊢
  generalize (partsS s) = w0 at c0 c1 ⊢
  clear hI
  cases d
  · refine cp14.vev ?_
    conv => whnf
    repeat ((first | (apply guardI; · kernel_rfl) | (apply condT; · assumption) | (apply condF; · assumption) | (apply condNT; · assumption) | (apply condNF; · assumption)); conv => whnf)
    refine ⟨_, _, h29, ?_⟩
    conv => whnf
    repeat ((first | (apply guardI; · kernel_rfl) | (apply condT; · assumption) | (apply condF; · assumption) | (apply condNT; · assumption) | (apply condNF; · assumption)); conv => whnf)
    refine ⟨_, _, h30, ?_⟩
    conv => whnf
    repeat ((first | (apply guardI; · kernel_rfl) | (apply condT; · assumption) | (apply condF; · assumption) | (apply condNT; · assumption) | (apply condNF; · assumption)); conv => whnf)
    refine ⟨_, _, e23 5, ?_⟩
    conv => whnf
    repeat ((first | (apply guardI; · kernel_rfl) | (apply condT; · assumption) | (apply condF; · assumption) | (apply condNT; · assumption) | (apply condNF; · assumption)); conv => whnf)
    refine callK (c0) (by kernel_rfl) (by kernel_rfl) ?_
    conv => whnf
    repeat ((first | (apply guardI; · kernel_rfl) | (apply condT; · assumption) | (apply condF; · assumption) | (apply condNT; · assumption) | (apply condNF; · assumption)); conv => whnf)
    refine callK (c1) (by kernel_rfl) (by kernel_rfl) ?_
    conv => whnf
    repeat ((first | (apply guardI; · kernel_rfl) | (apply condT; · assumption) | (apply condF; · assumption) | (apply condNT; · assumption) | (apply condNF; · assumption)); conv => whnf)
    refine callK (h36) (by kernel_rfl) (by kernel_rfl) ?_
    conv => whnf
    repeat ((first | (apply guardI; · kernel_rfl) | (apply condT; · assumption) | (apply condF; · assumption) | (apply condNT; · assumption) | (apply condNF; · assumption)); conv => whnf)
    exact ⟨by kernel_rfl, by kernel_rfl⟩
  · refine cp14.vev ?_
    conv => whnf
    repeat ((first | (apply guardI; · kernel_rfl) | (apply condT; · assumption) | (apply condF; · assumption) | (apply condNT; · assumption) | (apply condNF; · assumption)); conv => whnf)
    refine ⟨_, _, h29, ?_⟩
    conv => whnf
    repeat ((first | (apply guardI; · kernel_rfl) | (apply condT; · assumption) | (apply condF; · assumption) | (apply condNT; · assumption) | (apply condNF; · assumption)); conv => whnf)
    refine ⟨_, _, h30, ?_⟩
    conv => whnf
    repeat ((first | (apply guardI; · kernel_rfl) | (apply condT; · assumption) | (apply condF; · assumption) | (apply condNT; · assumption) | (apply condNF; · assumption)); conv => whnf)
    refine ⟨_, _, e23 5, ?_⟩
    conv => whnf
    repeat ((first | (apply guardI; · kernel_rfl) | (apply condT; · assumption) | (apply condF; · assumption) | (apply condNT; · assumption) | (apply condNF; · assumption)); conv => whnf)
    refine callK (c0) (by kernel_rfl) (by kernel_rfl) ?_
    conv => whnf
    repeat ((first | (apply guardI; · kernel_rfl) | (apply condT; · assumption) | (apply condF; · assumption) | (apply condNT; · assumption) | (apply condNF; · assumption)); conv => whnf)
    refine callK (c1) (by kernel_rfl) (by kernel_rfl) ?_
    conv => whnf
    repeat ((first | (apply guardI; · kernel_rfl) | (apply condT; · assumption) | (apply condF; · assumption) | (apply condNT; · assumption) | (apply condNF; · assumption)); conv => whnf)
    refine callK (h36) (by kernel_rfl) (by kernel_rfl) ?_
    conv => whnf
    repeat ((first | (apply guardI; · kernel_rfl) | (apply condT; · assumption) | (apply condF; · assumption) | (apply condNT; · assumption) | (apply condNF; · assumption)); conv => whnf)
    exact ⟨by kernel_rfl, by kernel_rfl⟩

set_option maxHeartbeats 2000000 in
theorem e14k6 (b : Bs) (hb : b.length < SM) (s : RS) (hI : intS ⟨b, false⟩ = (6, s)) (d : Bool) (hd : doneB (rk6 s).2 = d) : VEv Tryd.prog gl 14 [.d (bs b)] [] (.tuple [.d (cond d (rk6 s).1 (zE 0)).d, .d (int (cond d 0 20))]) [] := by
  have h29 := e29 b hb
  have h30 := e30s ⟨b, false⟩
  have hle := intS_le ⟨b, false⟩
  rw [hI] at h30 hle
  have hle : s.b.length ≤ b.length := hle
  have h36 := e36 (rk6 s).2
  have hd2 : (!(rk6 s).2.bad && decide ((((rk6 s).2.b.map byteD).length : Int) = 0)) = d := hd
  rw [hd2] at h36
  clear hd hd2
  unfold rk6 at h36 ⊢
  dsimp only at h36 ⊢
  have c0 := e30s s
  generalize (intS s) = w0 at c0 h36 ⊢
  clear hI
  cases d
  · refine cp14.vev ?_
    conv => whnf
    repeat ((first | (apply guardI; · kernel_rfl) | (apply condT; · assumption) | (apply condF; · assumption) | (apply condNT; · assumption) | (apply condNF; · assumption)); conv => whnf)
    refine ⟨_, _, h29, ?_⟩
    conv => whnf
    repeat ((first | (apply guardI; · kernel_rfl) | (apply condT; · assumption) | (apply condF; · assumption) | (apply condNT; · assumption) | (apply condNF; · assumption)); conv => whnf)
    refine ⟨_, _, h30, ?_⟩
    conv => whnf
    repeat ((first | (apply guardI; · kernel_rfl) | (apply condT; · assumption) | (apply condF; · assumption) | (apply condNT; · assumption) | (apply condNF; · assumption)); conv => whnf)
    refine ⟨_, _, e23 6, ?_⟩
    conv => whnf
    repeat ((first | (apply guardI; · kernel_rfl) | (apply condT; · assumption) | (apply condF; · assumption) | (apply condNT; · assumption) | (apply condNF; · assumption)); conv => whnf)
    refine callK (c0) (by kernel_rfl) (by kernel_rfl) ?_
    conv => whnf
    repeat ((first | (apply guardI; · kernel_rfl) | (apply condT; · assumption) | (apply condF; · assumption) | (apply condNT; · assumption) | (apply condNF; · assumption)); conv => whnf)
    refine callK (h36) (by kernel_rfl) (by kernel_rfl) ?_
    conv => whnf
    repeat ((first | (apply guardI; · kernel_rfl) | (apply condT; · assumption) | (apply condF; · assumption) | (apply condNT; · assumption) | (apply condNF; · assumption)); conv => whnf)
    exact ⟨by kernel_rfl, by kernel_rfl⟩
  · refine cp14.vev ?_
    conv => whnf
    repeat ((first | (apply guardI; · kernel_rfl) | (apply condT; · assumption) | (apply condF; · assumption) | (apply condNT; · assumption) | (apply condNF; · assumption)); conv => whnf)
    refine ⟨_, _, h29, ?_⟩
    conv => whnf
    repeat ((first | (apply guardI; · kernel_rfl) | (apply condT; · assumption) | (apply condF; · assumption) | (apply condNT; · assumption) | (apply condNF; · assumption)); conv => whnf)
    refine ⟨_, _, h30, ?_⟩
    conv => whnf
    repeat ((first | (apply guardI; · kernel_rfl) | (apply condT; · assumption) | (apply condF; · assumption) | (apply condNT; · assumption) | (apply condNF; · assumption)); conv => whnf)
    refine ⟨_, _, e23 6, ?_⟩
    conv => whnf
    repeat ((first | (apply guardI; · kernel_rfl) | (apply condT; · assumption) | (apply condF; · assumption) | (apply condNT; · assumption) | (apply condNF; · assumption)); conv => whnf)
    refine callK (c0) (by kernel_rfl) (by kernel_rfl) ?_
    conv => whnf
    repeat ((first | (apply guardI; · kernel_rfl) | (apply condT; · assumption) | (apply condF; · assumption) | (apply condNT; · assumption) | (apply condNF; · assumption)); conv => whnf)
    refine callK (h36) (by kernel_rfl) (by kernel_rfl) ?_
    conv => whnf
    repeat ((first | (apply guardI; · kernel_rfl) | (apply condT; · assumption) | (apply condF; · assumption) | (apply condNT; · assumption) | (apply condNF; · assumption)); conv => whnf)
    exact ⟨by kernel_rfl, by kernel_rfl⟩

set_option maxHeartbeats 2000000 in
theorem e14k7 (b : Bs) (hb : b.length < SM) (s : RS) (hI : intS ⟨b, false⟩ = (7, s)) (d : Bool) (hd : doneB (rk7 s).2 = d) : VEv Tryd.prog gl 14 [.d (bs b)] [] (.tuple [.d (cond d (rk7 s).1 (zE 0)).d, .d (int (cond d 0 20))]) [] := by
  have h29 := e29 b hb
  have h30 := e30s ⟨b, false⟩
  have hle := intS_le ⟨b, false⟩
  rw [hI] at h30 hle
  have hle : s.b.length ≤ b.length := hle
  have h36 := e36 (rk7 s).2
  have hd2 : (!(rk7 s).2.bad && decide ((((rk7 s).2.b.map byteD).length : Int) = 0)) = d := hd
  rw [hd2] at h36
  clear hd hd2
  unfold rk7 at h36 ⊢
  dsimp only at h36 ⊢
  have c0 := e32 s
  generalize (partS s) = w0 at c0 h36 ⊢
  clear hI
  cases d
  · refine cp14.vev ?_
    conv => whnf
    repeat ((first | (apply guardI; · kernel_rfl) | (apply condT; · assumption) | (apply condF; · assumption) | (apply condNT; · assumption) | (apply condNF; · assumption)); conv => whnf)
    refine ⟨_, _, h29, ?_⟩
    conv => whnf
    repeat ((first | (apply guardI; · kernel_rfl) | (apply condT; · assumption) | (apply condF; · assumption) | (apply condNT; · assumption) | (apply condNF; · assumption)); conv => whnf)
    refine ⟨_, _, h30, ?_⟩
    conv => whnf
    repeat ((first | (apply guardI; · kernel_rfl) | (apply condT; · assumption) | (apply condF; · assumption) | (apply condNT; · assumption) | (apply condNF; · assumption)); conv => whnf)
    refine ⟨_, _, e23 7, ?_⟩
    conv => whnf
    repeat ((first | (apply guardI; · kernel_rfl) | (apply condT; · assumption) | (apply condF; · assumption) | (apply condNT; · assumption) | (apply condNF; · assumption)); conv => whnf)
    refine callK (c0) (by kernel_rfl) (by kernel_rfl) ?_
    conv => whnf
    repeat ((first | (apply guardI; · kernel_rfl) | (apply condT; · assumption) | (apply condF; · assumption) | (apply condNT; · assumption) | (apply condNF; · assumption)); conv => whnf)
    refine callK (h36) (by kernel_rfl) (by kernel_rfl) ?_
    conv => whnf
    repeat ((first | (apply guardI; · kernel_rfl) | (apply condT; · assumption) | (apply condF; · assumption) | (apply condNT; · assumption) | (apply condNF; · assumption)); conv => whnf)
    exact ⟨by kernel_rfl, by kernel_rfl⟩
  · refine cp14.vev ?_
    conv => whnf
    repeat ((first | (apply guardI; · kernel_rfl) | (apply condT; · assumption) | (apply condF; · assumption) | (apply condNT; · assumption) | (apply condNF; · assumption)); conv => whnf)
    refine ⟨_, _, h29, ?_⟩
    conv => whnf
    repeat ((first | (apply guardI; · kernel_rfl) | (apply condT; · assumption) | (apply condF; · assumption) | (apply condNT; · assumption) | (apply condNF; · assumption)); conv => whnf)
    refine ⟨_, _, h30, ?_⟩
    conv => whnf
    repeat ((first | (apply guardI; · kernel_rfl) | (apply condT; · assumption) | (apply condF; · assumption) | (apply condNT; · assumption) | (apply condNF; · assumption)); conv => whnf)
    refine ⟨_, _, e23 7, ?_⟩
    conv => whnf
    repeat ((first | (apply guardI; · kernel_rfl) | (apply condT; · assumption) | (apply condF; · assumption) | (apply condNT; · assumption) | (apply condNF; · assumption)); conv => whnf)
    refine callK (c0) (by kernel_rfl) (by kernel_rfl) ?_
    conv => whnf
    repeat ((first | (apply guardI; · kernel_rfl) | (apply condT; · assumption) | (apply condF; · assumption) | (apply condNT; · assumption) | (apply condNF; · assumption)); conv => whnf)
    refine callK (h36) (by kernel_rfl) (by kernel_rfl) ?_
    conv => whnf
    repeat ((first | (apply guardI; · kernel_rfl) | (apply condT; · assumption) | (apply condF; · assumption) | (apply condNT; · assumption) | (apply condNF; · assumption)); conv => whnf)
    exact ⟨by kernel_rfl, by kernel_rfl⟩

set_option maxHeartbeats 2000000 in
theorem e14k8 (b : Bs) (hb : b.length < SM) (s : RS) (hI : intS ⟨b, false⟩ = (8, s)) (d : Bool) (hd : doneB (rk8 s).2 = d) : VEv Tryd.prog gl 14 [.d (bs b)] [] (.tuple [.d (cond d (rk8 s).1 (zE 0)).d, .d (int (cond d 0 20))]) [] := by
  have h29 := e29 b hb
  have h30 := e30s ⟨b, false⟩
  have hle := intS_le ⟨b, false⟩
  rw [hI] at h30 hle
  have hle : s.b.length ≤ b.length := hle
  have h36 := e36 (rk8 s).2
  have hd2 : (!(rk8 s).2.bad && decide ((((rk8 s).2.b.map byteD).length : Int) = 0)) = d := hd
  rw [hd2] at h36
  clear hd hd2
  unfold rk8 at h36 ⊢
  dsimp only at h36 ⊢
  have c0 := e30s s
  have c1 := e33 (intS s).2 (Nat.lt_of_le_of_lt (Nat.le_trans (intS_le s) hle) hb)
  generalize (tabS (intS s).2) = w1 at c1 h36 ⊢
  generalize (intS s) = w0 at c0 c1 ⊢
  clear hI
  cases d
  · refine cp14.vev ?_
    conv => whnf
    repeat ((first | (apply guardI; · kernel_rfl) | (apply condT; · assumption) | (apply condF; · assumption) | (apply condNT; · assumption) | (apply condNF; · assumption)); conv => whnf)
    refine ⟨_, _, h29, ?_⟩
    conv => whnf
    repeat ((first | (apply guardI; · kernel_rfl) | (apply condT; · assumption) | (apply condF; · assumption) | (apply condNT; · assumption) | (apply condNF; · assumption)); conv => whnf)
    refine ⟨_, _, h30, ?_⟩
    conv => whnf
    repeat ((first | (apply guardI; · kernel_rfl) | (apply condT; · assumption) | (apply condF; · assumption) | (apply condNT; · assumption) | (apply condNF; · assumption)); conv => whnf)
    refine ⟨_, _, e23 8, ?_⟩
    conv => whnf
    repeat ((first | (apply guardI; · kernel_rfl) | (apply condT; · assumption) | (apply condF; · assumption) | (apply condNT; · assumption) | (apply condNF; · assumption)); conv => whnf)
    refine callK (c0) (by kernel_rfl) (by kernel_rfl) ?_
    conv => whnf
    repeat ((first | (apply guardI; · kernel_rfl) | (apply condT; · assumption) | (apply condF; · assumption) | (apply condNT; · assumption) | (apply condNF; · assumption)); conv => whnf)
    refine callK (c1) (by kernel_rfl) (by kernel_rfl) ?_
    conv => whnf
    repeat ((first | (apply guardI; · kernel_rfl) | (apply condT; · assumption) | (apply condF; · assumption) | (apply condNT; · assumption) | (apply condNF; · assumption)); conv => whnf)
    refine callK (h36) (by kernel_rfl) (by kernel_rfl) ?_
    conv => whnf
    repeat ((first | (apply guardI; · kernel_rfl) | (apply condT; · assumption) | (apply condF; · assumption) | (apply condNT; · assumption) | (apply condNF; · assumption)); conv => whnf)
    exact ⟨by kernel_rfl, by kernel_rfl⟩
  · refine cp14.vev ?_
    conv => whnf
    repeat ((first | (apply guardI; · kernel_rfl) | (apply condT; · assumption) | (apply condF; · assumption) | (apply condNT; · assumption) | (apply condNF; · assumption)); conv => whnf)
    refine ⟨_, _, h29, ?_⟩
    conv => whnf
    repeat ((first | (apply guardI; · kernel_rfl) | (apply condT; · assumption) | (apply condF; · assumption) | (apply condNT; · assumption) | (apply condNF; · assumption)); conv => whnf)
    refine ⟨_, _, h30, ?_⟩
    conv => whnf
    repeat ((first | (apply guardI; · kernel_rfl) | (apply condT; · assumption) | (apply condF; · assumption) | (apply condNT; · assumption) | (apply condNF; · assumption)); conv => whnf)
    refine ⟨_, _, e23 8, ?_⟩
    conv => whnf
    repeat ((first | (apply guardI; · kernel_rfl) | (apply condT; · assumption) | (apply condF; · assumption) | (apply condNT; · assumption) | (apply condNF; · assumption)); conv => whnf)
    refine callK (c0) (by kernel_rfl) (by kernel_rfl) ?_
    conv => whnf
    repeat ((first | (apply guardI; · kernel_rfl) | (apply condT; · assumption) | (apply condF; · assumption) | (apply condNT; · assumption) | (apply condNF; · assumption)); conv => whnf)
    refine callK (c1) (by kernel_rfl) (by kernel_rfl) ?_
    conv => whnf
    repeat ((first | (apply guardI; · kernel_rfl) | (apply condT; · assumption) | (apply condF; · assumption) | (apply condNT; · assumption) | (apply condNF; · assumption)); conv => whnf)
    refine callK (h36) (by kernel_rfl) (by kernel_rfl) ?_
    conv => whnf
    repeat ((first | (apply guardI; · kernel_rfl) | (apply condT; · assumption) | (apply condF; · assumption) | (apply condNT; · assumption) | (apply condNF; · assumption)); conv => whnf)
    exact ⟨by kernel_rfl, by kernel_rfl⟩

set_option maxHeartbeats 2000000 in
theorem e14k9 (b : Bs) (hb : b.length < SM) (s : RS) (hI : intS ⟨b, false⟩ = (9, s)) (d : Bool) (hd : doneB (rk9 s).2 = d) : VEv Tryd.prog gl 14 [.d (bs b)] [] (.tuple [.d (cond d (rk9 s).1 (zE 0)).d, .d (int (cond d 0 20))]) [] := by
  have h29 := e29 b hb
  have h30 := e30s ⟨b, false⟩
  have hle := intS_le ⟨b, false⟩
  rw [hI] at h30 hle
  have hle : s.b.length ≤ b.length := hle
  have h36 := e36 (rk9 s).2
  have hd2 : (!(rk9 s).2.bad && decide ((((rk9 s).2.b.map byteD).length : Int) = 0)) = d := hd
  rw [hd2] at h36
  clear hd hd2
  unfold rk9 at h36 ⊢
  dsimp only at h36 ⊢
  have c0 := e30s s
  have c1 := e30s (intS s).2
  have c2 := e30s (intS (intS s).2).2
  have c3 := e35 (intS (intS (intS s).2).2).2
  generalize (countS (intS (intS (intS s).2).2).2 1) = w3 at c3 h36 ⊢
  generalize (intS (intS (intS s).2).2) = w2 at c2 c3 ⊢
  generalize (intS (intS s).2) = w1 at c1 c2 ⊢
  generalize (intS s) = w0 at c0 c1 ⊢
  clear hI
  cases d
  · refine cp14.vev ?_
    conv => whnf
    repeat ((first | (apply guardI; · kernel_rfl) | (apply condT; · assumption) | (apply condF; · assumption) | (apply condNT; · assumption) | (apply condNF; · assumption)); conv => whnf)
    refine ⟨_, _, h29, ?_⟩
    conv => whnf
    repeat ((first | (apply guardI; · kernel_rfl) | (apply condT; · assumption) | (apply condF; · assumption) | (apply condNT; · assumption) | (apply condNF; · assumption)); conv => whnf)
    refine ⟨_, _, h30, ?_⟩
    conv => whnf
    repeat ((first | (apply guardI; · kernel_rfl) | (apply condT; · assumption) | (apply condF; · assumption) | (apply condNT; · assumption) | (apply condNF; · assumption)); conv => whnf)
    refine ⟨_, _, e23 9, ?_⟩
    conv => whnf
    repeat ((first | (apply guardI; · kernel_rfl) | (apply condT; · assumption) | (apply condF; · assumption) | (apply condNT; · assumption) | (apply condNF; · assumption)); conv => whnf)
    refine callK (c0) (by kernel_rfl) (by kernel_rfl) ?_
    conv => whnf
    repeat ((first | (apply guardI; · kernel_rfl) | (apply condT; · assumption) | (apply condF; · assumption) | (apply condNT; · assumption) | (apply condNF; · assumption)); conv => whnf)
    refine callK (c1) (by kernel_rfl) (by kernel_rfl) ?_
    conv => whnf
    repeat ((first | (apply guardI; · kernel_rfl) | (apply condT; · assumption) | (apply condF; · assumption) | (apply condNT; · assumption) | (apply condNF; · assumption)); conv => whnf)
    refine callK (c2) (by kernel_rfl) (by kernel_rfl) ?_
    conv => whnf
    repeat ((first | (apply guardI; · kernel_rfl) | (apply condT; · assumption) | (apply condF; · assumption) | (apply condNT; · assumption) | (apply condNF; · assumption)); conv => whnf)
    refine callK (c3) (by kernel_rfl) (by kernel_rfl) ?_
    conv => whnf
    repeat ((first | (apply guardI; · kernel_rfl) | (apply condT; · assumption) | (apply condF; · assumption) | (apply condNT; · assumption) | (apply condNF; · assumption)); conv => whnf)
    refine callK (h36) (by kernel_rfl) (by kernel_rfl) ?_
    conv => whnf
    repeat ((first | (apply guardI; · kernel_rfl) | (apply condT; · assumption) | (apply condF; · assumption) | (apply condNT; · assumption) | (apply condNF; · assumption)); conv => whnf)
    exact ⟨by kernel_rfl, by kernel_rfl⟩
  · refine cp14.vev ?_
    conv => whnf
    repeat ((first | (apply guardI; · kernel_rfl) | (apply condT; · assumption) | (apply condF; · assumption) | (apply condNT; · assumption) | (apply condNF; · assumption)); conv => whnf)
    refine ⟨_, _, h29, ?_⟩
    conv => whnf
    repeat ((first | (apply guardI; · kernel_rfl) | (apply condT; · assumption) | (apply condF; · assumption) | (apply condNT; · assumption) | (apply condNF; · assumption)); conv => whnf)
    refine ⟨_, _, h30, ?_⟩
    conv => whnf
    repeat ((first | (apply guardI; · kernel_rfl) | (apply condT; · assumption) | (apply condF; · assumption) | (apply condNT; · assumption) | (apply condNF; · assumption)); conv => whnf)
    refine ⟨_, _, e23 9, ?_⟩
    conv => whnf
    repeat ((first | (apply guardI; · kernel_rfl) | (apply condT; · assumption) | (apply condF; · assumption) | (apply condNT; · assumption) | (apply condNF; · assumption)); conv => whnf)
    refine callK (c0) (by kernel_rfl) (by kernel_rfl) ?_
    conv => whnf
    repeat ((first | (apply guardI; · kernel_rfl) | (apply condT; · assumption) | (apply condF; · assumption) | (apply condNT; · assumption) | (apply condNF; · assumption)); conv => whnf)
    refine callK (c1) (by kernel_rfl) (by kernel_rfl) ?_
    conv => whnf
    repeat ((first | (apply guardI; · kernel_rfl) | (apply condT; · assumption) | (apply condF; · assumption) | (apply condNT; · assumption) | (apply condNF; · assumption)); conv => whnf)
    refine callK (c2) (by kernel_rfl) (by kernel_rfl) ?_
    conv => whnf
    repeat ((first | (apply guardI; · kernel_rfl) | (apply condT; · assumption) | (apply condF; · assumption) | (apply condNT; · assumption) | (apply condNF; · assumption)); conv => whnf)
    refine callK (c3) (by kernel_rfl) (by kernel_rfl) ?_
    conv => whnf
    repeat ((first | (apply guardI; · kernel_rfl) | (apply condT; · assumption) | (apply condF; · assumption) | (apply condNT; · assumption) | (apply condNF; · assumption)); conv => whnf)
    refine callK (h36) (by kernel_rfl) (by kernel_rfl) ?_
    conv => whnf
    repeat ((first | (apply guardI; · kernel_rfl) | (apply condT; · assumption) | (apply condF; · assumption) | (apply condNT; · assumption) | (apply condNF; · assumption)); conv => whnf)
    exact ⟨by kernel_rfl, by kernel_rfl⟩

set_option maxHeartbeats 2000000 in
theorem e14k10 (b : Bs) (hb : b.length < SM) (s : RS) (hI : intS ⟨b, false⟩ = (10, s)) (d : Bool) (hd : doneB (rk10 s).2 = d) : VEv Tryd.prog gl 14 [.d (bs b)] [] (.tuple [.d (cond d (rk10 s).1 (zE 0)).d, .d (int (cond d 0 20))]) [] := by
  have h29 := e29 b hb
  have h30 := e30s ⟨b, false⟩
  have hle := intS_le ⟨b, false⟩
  rw [hI] at h30 hle
  have hle : s.b.length ≤ b.length := hle
  have h36 := e36 (rk10 s).2
  have hd2 : (!(rk10 s).2.bad && decide ((((rk10 s).2.b.map byteD).length : Int) = 0)) = d := hd
  rw [hd2] at h36
  clear hd hd2
  unfold rk10 at h36 ⊢
  dsimp only at h36 ⊢
  have c0 := e30s s
  generalize (intS s) = w0 at c0 h36 ⊢
  clear hI
  cases d
  · refine cp14.vev ?_
    conv => whnf
    repeat ((first | (apply guardI; · kernel_rfl) | (apply condT; · assumption) | (apply condF; · assumption) | (apply condNT; · assumption) | (apply condNF; · assumption)); conv => whnf)
    refine ⟨_, _, h29, ?_⟩
    conv => whnf
    repeat ((first | (apply guardI; · kernel_rfl) | (apply condT; · assumption) | (apply condF; · assumption) | (apply condNT; · assumption) | (apply condNF; · assumption)); conv => whnf)
    refine ⟨_, _, h30, ?_⟩
    conv => whnf
    repeat ((first | (apply guardI; · kernel_rfl) | (apply condT; · assumption) | (apply condF; · assumption) | (apply condNT; · assumption) | (apply condNF; · assumption)); conv => whnf)
    refine ⟨_, _, e23 10, ?_⟩
    conv => whnf
    repeat ((first | (apply guardI; · kernel_rfl) | (apply condT; · assumption) | (apply condF; · assumption) | (apply condNT; · assumption) | (apply condNF; · assumption)); conv => whnf)
    refine callK (c0) (by kernel_rfl) (by kernel_rfl) ?_
    conv => whnf
    repeat ((first | (apply guardI; · kernel_rfl) | (apply condT; · assumption) | (apply condF; · assumption) | (apply condNT; · assumption) | (apply condNF; · assumption)); conv => whnf)
    refine callK (h36) (by kernel_rfl) (by kernel_rfl) ?_
    conv => whnf
    repeat ((first | (apply guardI; · kernel_rfl) | (apply condT; · assumption) | (apply condF; · assumption) | (apply condNT; · assumption) | (apply condNF; · assumption)); conv => whnf)
    exact ⟨by kernel_rfl, by kernel_rfl⟩
  · refine cp14.vev ?_
    conv => whnf
    repeat ((first | (apply guardI; · kernel_rfl) | (apply condT; · assumption) | (apply condF; · assumption) | (apply condNT; · assumption) | (apply condNF; · assumption)); conv => whnf)
    refine ⟨_, _, h29, ?_⟩
    conv => whnf
    repeat ((first | (apply guardI; · kernel_rfl) | (apply condT; · assumption) | (apply condF; · assumption) | (apply condNT; · assumption) | (apply condNF; · assumption)); conv => whnf)
    refine ⟨_, _, h30, ?_⟩
    conv => whnf
    repeat ((first | (apply guardI; · kernel_rfl) | (apply condT; · assumption) | (apply condF; · assumption) | (apply condNT; · assumption) | (apply condNF; · assumption)); conv => whnf)
    refine ⟨_, _, e23 10, ?_⟩
    conv => whnf
    repeat ((first | (apply guardI; · kernel_rfl) | (apply condT; · assumption) | (apply condF; · assumption) | (apply condNT; · assumption) | (apply condNF; · assumption)); conv => whnf)
    refine callK (c0) (by kernel_rfl) (by kernel_rfl) ?_
    conv => whnf
    repeat ((first | (apply guardI; · kernel_rfl) | (apply condT; · assumption) | (apply condF; · assumption) | (apply condNT; · assumption) | (apply condNF; · assumption)); conv => whnf)
    refine callK (h36) (by kernel_rfl) (by kernel_rfl) ?_
    conv => whnf
    repeat ((first | (apply guardI; · kernel_rfl) | (apply condT; · assumption) | (apply condF; · assumption) | (apply condNT; · assumption) | (apply condNF; · assumption)); conv => whnf)
    exact ⟨by kernel_rfl, by kernel_rfl⟩

set_option maxHeartbeats 2000000 in
theorem e14k11 (b : Bs) (hb : b.length < SM) (s : RS) (hI : intS ⟨b, false⟩ = (11, s)) (d : Bool) (hd : doneB (rk11 s).2 = d) : VEv Tryd.prog gl 14 [.d (bs b)] [] (.tuple [.d (cond d (rk11 s).1 (zE 0)).d, .d (int (cond d 0 20))]) [] := by
  have h29 := e29 b hb
  have h30 := e30s ⟨b, false⟩
  have hle := intS_le ⟨b, false⟩
  rw [hI] at h30 hle
  have hle : s.b.length ≤ b.length := hle
  have h36 := e36 (rk11 s).2
  have hd2 : (!(rk11 s).2.bad && decide ((((rk11 s).2.b.map byteD).length : Int) = 0)) = d := hd
  rw [hd2] at h36
  clear hd hd2
  unfold rk11 at h36 ⊢
  dsimp only at h36 ⊢
  have c0 := e35 s
  generalize (countS s 1) = w0 at c0 h36 ⊢
  clear hI
  cases d
  · refine cp14.vev ?_
    conv => whnf
    repeat ((first | (apply guardI; · kernel_rfl) | (apply condT; · assumption) | (apply condF; · assumption) | (apply condNT; · assumption) | (apply condNF; · assumption)); conv => whnf)
    refine ⟨_, _, h29, ?_⟩
    conv => whnf
    repeat ((first | (apply guardI; · kernel_rfl) | (apply condT; · assumption) | (apply condF; · assumption) | (apply condNT; · assumption) | (apply condNF; · assumption)); conv => whnf)
    refine ⟨_, _, h30, ?_⟩
    conv => whnf
    repeat ((first | (apply guardI; · kernel_rfl) | (apply condT; · assumption) | (apply condF; · assumption) | (apply condNT; · assumption) | (apply condNF; · assumption)); conv => whnf)
    refine ⟨_, _, e23 11, ?_⟩
    conv => whnf
    repeat ((first | (apply guardI; · kernel_rfl) | (apply condT; · assumption) | (apply condF; · assumption) | (apply condNT; · assumption) | (apply condNF; · assumption)); conv => whnf)
    refine callK (c0) (by kernel_rfl) (by kernel_rfl) ?_
    conv => whnf
    repeat ((first | (apply guardI; · kernel_rfl) | (apply condT; · assumption) | (apply condF; · assumption) | (apply condNT; · assumption) | (apply condNF; · assumption)); conv => whnf)
    refine callK (h36) (by kernel_rfl) (by kernel_rfl) ?_
    conv => whnf
    repeat ((first | (apply guardI; · kernel_rfl) | (apply condT; · assumption) | (apply condF; · assumption) | (apply condNT; · assumption) | (apply condNF; · assumption)); conv => whnf)
    exact ⟨by kernel_rfl, by kernel_rfl⟩
  · refine cp14.vev ?_
    conv => whnf
    repeat ((first | (apply guardI; · kernel_rfl) | (apply condT; · assumption) | (apply condF; · assumption) | (apply condNT; · assumption) | (apply condNF; · assumption)); conv => whnf)
    refine ⟨_, _, h29, ?_⟩
    conv => whnf
    repeat ((first | (apply guardI; · kernel_rfl) | (apply condT; · assumption) | (apply condF; · assumption) | (apply condNT; · assumption) | (apply condNF; · assumption)); conv => whnf)
    refine ⟨_, _, h30, ?_⟩
    conv => whnf
    repeat ((first | (apply guardI; · kernel_rfl) | (apply condT; · assumption) | (apply condF; · assumption) | (apply condNT; · assumption) | (apply condNF; · assumption)); conv => whnf)
    refine ⟨_, _, e23 11, ?_⟩
    conv => whnf
    repeat ((first | (apply guardI; · kernel_rfl) | (apply condT; · assumption) | (apply condF; · assumption) | (apply condNT; · assumption) | (apply condNF; · assumption)); conv => whnf)
    refine callK (c0) (by kernel_rfl) (by kernel_rfl) ?_
    conv => whnf
    repeat ((first | (apply guardI; · kernel_rfl) | (apply condT; · assumption) | (apply condF; · assumption) | (apply condNT; · assumption) | (apply condNF; · assumption)); conv => whnf)
    refine callK (h36) (by kernel_rfl) (by kernel_rfl) ?_
    conv => whnf
    repeat ((first | (apply guardI; · kernel_rfl) | (apply condT; · assumption) | (apply condF; · assumption) | (apply condNT; · assumption) | (apply condNF; · assumption)); conv => whnf)
    exact ⟨by kernel_rfl, by kernel_rfl⟩

set_option maxHeartbeats 2000000 in
theorem e14k12 (b : Bs) (hb : b.length < SM) (s : RS) (hI : intS ⟨b, false⟩ = (12, s)) (d : Bool) (hd : doneB (rk12 s).2 = d) : VEv Tryd.prog gl 14 [.d (bs b)] [] (.tuple [.d (cond d (rk12 s).1 (zE 0)).d, .d (int (cond d 0 20))]) [] := by
  have h29 := e29 b hb
  have h30 := e30s ⟨b, false⟩
  have hle := intS_le ⟨b, false⟩
  rw [hI] at h30 hle
  have hle : s.b.length ≤ b.length := hle
  have h36 := e36 (rk12 s).2
  have hd2 : (!(rk12 s).2.bad && decide ((((rk12 s).2.b.map byteD).length : Int) = 0)) = d := hd
  rw [hd2] at h36
  clear hd hd2
  unfold rk12 at h36 ⊢
  dsimp only at h36 ⊢
  clear hI
  cases d
  · refine cp14.vev ?_
    conv => whnf
    repeat ((first | (apply guardI; · kernel_rfl) | (apply condT; · assumption) | (apply condF; · assumption) | (apply condNT; · assumption) | (apply condNF; · assumption)); conv => whnf)
    refine ⟨_, _, h29, ?_⟩
    conv => whnf
    repeat ((first | (apply guardI; · kernel_rfl) | (apply condT; · assumption) | (apply condF; · assumption) | (apply condNT; · assumption) | (apply condNF; · assumption)); conv => whnf)
    refine ⟨_, _, h30, ?_⟩
    conv => whnf
    repeat ((first | (apply guardI; · kernel_rfl) | (apply condT; · assumption) | (apply condF; · assumption) | (apply condNT; · assumption) | (apply condNF; · assumption)); conv => whnf)
    refine ⟨_, _, e23 12, ?_⟩
    conv => whnf
    repeat ((first | (apply guardI; · kernel_rfl) | (apply condT; · assumption) | (apply condF; · assumption) | (apply condNT; · assumption) | (apply condNF; · assumption)); conv => whnf)
    refine callK (h36) (by kernel_rfl) (by kernel_rfl) ?_
    conv => whnf
    repeat ((first | (apply guardI; · kernel_rfl) | (apply condT; · assumption) | (apply condF; · assumption) | (apply condNT; · assumption) | (apply condNF; · assumption)); conv => whnf)
    exact ⟨by kernel_rfl, by kernel_rfl⟩
  · refine cp14.vev ?_
    conv => whnf
    repeat ((first | (apply guardI; · kernel_rfl) | (apply condT; · assumption) | (apply condF; · assumption) | (apply condNT; · assumption) | (apply condNF; · assumption)); conv => whnf)
    refine ⟨_, _, h29, ?_⟩
    conv => whnf
    repeat ((first | (apply guardI; · kernel_rfl) | (apply condT; · assumption) | (apply condF; · assumption) | (apply condNT; · assumption) | (apply condNF; · assumption)); conv => whnf)
    refine ⟨_, _, h30, ?_⟩
    conv => whnf
    repeat ((first | (apply guardI; · kernel_rfl) | (apply condT; · assumption) | (apply condF; · assumption) | (apply condNT; · assumption) | (apply condNF; · assumption)); conv => whnf)
    refine ⟨_, _, e23 12, ?_⟩
    conv => whnf
    repeat ((first | (apply guardI; · kernel_rfl) | (apply condT; · assumption) | (apply condF; · assumption) | (apply condNT; · assumption) | (apply condNF; · assumption)); conv => whnf)
    refine callK (h36) (by kernel_rfl) (by kernel_rfl) ?_
    conv => whnf
    repeat ((first | (apply guardI; · kernel_rfl) | (apply condT; · assumption) | (apply condF; · assumption) | (apply condNT; · assumption) | (apply condNF; · assumption)); conv => whnf)
    exact ⟨by kernel_rfl, by kernel_rfl⟩

set_option maxHeartbeats 2000000 in
theorem e14k13 (b : Bs) (hb : b.length < SM) (s : RS) (hI : intS ⟨b, false⟩ = (13, s)) (d : Bool) (hd : doneB (rk13 s).2 = d) : VEv Tryd.prog gl 14 [.d (bs b)] [] (.tuple [.d (cond d (rk13 s).1 (zE 0)).d, .d (int (cond d 0 20))]) [] := by
  have h29 := e29 b hb
  have h30 := e30s ⟨b, false⟩
  have hle := intS_le ⟨b, false⟩
  rw [hI] at h30 hle
  have hle : s.b.length ≤ b.length := hle
  have h36 := e36 (rk13 s).2
  have hd2 : (!(rk13 s).2.bad && decide ((((rk13 s).2.b.map byteD).length : Int) = 0)) = d := hd
  rw [hd2] at h36
  clear hd hd2
  unfold rk13 at h36 ⊢
  dsimp only at h36 ⊢
  clear hI
  cases d
  · refine cp14.vev ?_
    conv => whnf
    repeat ((first | (apply guardI; · kernel_rfl) | (apply condT; · assumption) | (apply condF; · assumption) | (apply condNT; · assumption) | (apply condNF; · assumption)); conv => whnf)
    refine ⟨_, _, h29, ?_⟩
    conv => whnf
    repeat ((first | (apply guardI; · kernel_rfl) | (apply condT; · assumption) | (apply condF; · assumption) | (apply condNT; · assumption) | (apply condNF; · assumption)); conv => whnf)
    refine ⟨_, _, h30, ?_⟩
    conv => whnf
    repeat ((first | (apply guardI; · kernel_rfl) | (apply condT; · assumption) | (apply condF; · assumption) | (apply condNT; · assumption) | (apply condNF; · assumption)); conv => whnf)
    refine ⟨_, _, e23 13, ?_⟩
    conv => whnf
    repeat ((first | (apply guardI; · kernel_rfl) | (apply condT; · assumption) | (apply condF; · assumption) | (apply condNT; · assumption) | (apply condNF; · assumption)); conv => whnf)
    refine callK (h36) (by kernel_rfl) (by kernel_rfl) ?_
    conv => whnf
    repeat ((first | (apply guardI; · kernel_rfl) | (apply condT; · assumption) | (apply condF; · assumption) | (apply condNT; · assumption) | (apply condNF; · assumption)); conv => whnf)
    exact ⟨by kernel_rfl, by kernel_rfl⟩
  · refine cp14.vev ?_
    conv => whnf
    repeat ((first | (apply guardI; · kernel_rfl) | (apply condT; · assumption) | (apply condF; · assumption) | (apply condNT; · assumption) | (apply condNF; · assumption)); conv => whnf)
    refine ⟨_, _, h29, ?_⟩
    conv => whnf
    repeat ((first | (apply guardI; · kernel_rfl) | (apply condT; · assumption) | (apply condF; · assumption) | (apply condNT; · assumption) | (apply condNF; · assumption)); conv => whnf)
    refine ⟨_, _, h30, ?_⟩
    conv => whnf
    repeat ((first | (apply guardI; · kernel_rfl) | (apply condT; · assumption) | (apply condF; · assumption) | (apply condNT; · assumption) | (apply condNF; · assumption)); conv => whnf)
    refine ⟨_, _, e23 13, ?_⟩
    conv => whnf
    repeat ((first | (apply guardI; · kernel_rfl) | (apply condT; · assumption) | (apply condF; · assumption) | (apply condNT; · assumption) | (apply condNF; · assumption)); conv => whnf)
    refine callK (h36) (by kernel_rfl) (by kernel_rfl) ?_
    conv => whnf
    repeat ((first | (apply guardI; · kernel_rfl) | (apply condT; · assumption) | (apply condF; · assumption) | (apply condNT; · assumption) | (apply condNF; · assumption)); conv => whnf)
    exact ⟨by kernel_rfl, by kernel_rfl⟩

theorem e14no (b : Bs) (hb : b.length < SM) (k : Int) (s : RS) (hI : intS ⟨b, false⟩ = (k, s)) (hk : k < 1 ∨ 13 < k) : VEv Tryd.prog gl 14 [.d (bs b)] [] (.tuple [.d (zE 0).d, .d (int 20)]) [] := by
  have h29 := e29 b hb
  have h30 := e30s ⟨b, false⟩
  rw [hI] at h30
  have hkn : (decide (1 ≤ k) && decide (k < 14)) = false := by simp; omega
  have h23 := e23 k
  rw [hkn] at h23
  refine cp14.vev ?_
  conv => whnf
  repeat ((first | (apply guardI; · kernel_rfl) | (apply condT; · assumption) | (apply condF; · assumption) | (apply condNT; · assumption) | (apply condNF; · assumption)); conv => whnf)
  refine ⟨_, _, h29, ?_⟩
  conv => whnf
  repeat ((first | (apply guardI; · kernel_rfl) | (apply condT; · assumption) | (apply condF; · assumption) | (apply condNT; · assumption) | (apply condNF; · assumption)); conv => whnf)
  refine ⟨_, _, h30, ?_⟩
  conv => whnf
  repeat ((first | (apply guardI; · kernel_rfl) | (apply condT; · assumption) | (apply condF; · assumption) | (apply condNT; · assumption) | (apply condNF; · assumption)); conv => whnf)
  refine ⟨_, _, h23, ?_⟩
  conv => whnf
  repeat ((first | (apply guardI; · kernel_rfl) | (apply condT; · assumption) | (apply condF; · assumption) | (apply condNT; · assumption) | (apply condNF; · assumption)); conv => whnf)
  exact ⟨by kernel_rfl, by kernel_rfl⟩

noncomputable def readK (k : Int) (s : RS) : Ev × RS :=
  if k = 1 then rk1 s else if k = 2 then rk2 s else if k = 3 then rk3 s else if k = 4 then rk4 s else if k = 5 then rk5 s else if k = 6 then rk6 s else if k = 7 then rk7 s else if k = 8 then rk8 s else if k = 9 then rk9 s else if k = 10 then rk10 s else if k = 11 then rk11 s else if k = 12 then rk12 s else if k = 13 then rk13 s else (zE 0, ⟨s.b, true⟩)
noncomputable def readS (b : Bs) : Ev × Int := cond (doneB (readK (intS ⟨b, false⟩).1 (intS ⟨b, false⟩).2).2) ((readK (intS ⟨b, false⟩).1 (intS ⟨b, false⟩).2).1, 0) (zE 0, 20)
theorem e14 (b : Bs) (hb : b.length < SM) : VEv Tryd.prog gl 14 [.d (bs b)] [] (.tuple [.d (readS b).1.d, .d (int (readS b).2)]) [] := by
  unfold readS
  generalize hI : intS ⟨b, false⟩ = p
  obtain ⟨k, s⟩ := p
  dsimp only
  rcases kinds_or k with hk | hk
  · rcases hk with rfl | rfl | rfl | rfl | rfl | rfl | rfl | rfl | rfl | rfl | rfl | rfl | rfl
    · have h : ∀ d, doneB (readK 1 s).2 = d → VEv Tryd.prog gl 14 [.d (bs b)] [] (.tuple [.d (cond d (readK 1 s).1 (zE 0)).d, .d (int (cond d 0 20))]) [] := e14k1 b hb s hI
      cases hd : doneB (readK 1 s).2
      · exact h false hd
      · exact h true hd
    · have h : ∀ d, doneB (readK 2 s).2 = d → VEv Tryd.prog gl 14 [.d (bs b)] [] (.tuple [.d (cond d (readK 2 s).1 (zE 0)).d, .d (int (cond d 0 20))]) [] := e14k2 b hb s hI
      cases hd : doneB (readK 2 s).2
      · exact h false hd
      · exact h true hd
    · have h : ∀ d, doneB (readK 3 s).2 = d → VEv Tryd.prog gl 14 [.d (bs b)] [] (.tuple [.d (cond d (readK 3 s).1 (zE 0)).d, .d (int (cond d 0 20))]) [] := e14k3 b hb s hI
      cases hd : doneB (readK 3 s).2
      · exact h false hd
      · exact h true hd
    · have h : ∀ d, doneB (readK 4 s).2 = d → VEv Tryd.prog gl 14 [.d (bs b)] [] (.tuple [.d (cond d (readK 4 s).1 (zE 0)).d, .d (int (cond d 0 20))]) [] := e14k4 b hb s hI
      cases hd : doneB (readK 4 s).2
      · exact h false hd
      · exact h true hd
    · have h : ∀ d, doneB (readK 5 s).2 = d → VEv Tryd.prog gl 14 [.d (bs b)] [] (.tuple [.d (cond d (readK 5 s).1 (zE 0)).d, .d (int (cond d 0 20))]) [] := e14k5 b hb s hI
      cases hd : doneB (readK 5 s).2
      · exact h false hd
      · exact h true hd
    · have h : ∀ d, doneB (readK 6 s).2 = d → VEv Tryd.prog gl 14 [.d (bs b)] [] (.tuple [.d (cond d (readK 6 s).1 (zE 0)).d, .d (int (cond d 0 20))]) [] := e14k6 b hb s hI
      cases hd : doneB (readK 6 s).2
      · exact h false hd
      · exact h true hd
    · have h : ∀ d, doneB (readK 7 s).2 = d → VEv Tryd.prog gl 14 [.d (bs b)] [] (.tuple [.d (cond d (readK 7 s).1 (zE 0)).d, .d (int (cond d 0 20))]) [] := e14k7 b hb s hI
      cases hd : doneB (readK 7 s).2
      · exact h false hd
      · exact h true hd
    · have h : ∀ d, doneB (readK 8 s).2 = d → VEv Tryd.prog gl 14 [.d (bs b)] [] (.tuple [.d (cond d (readK 8 s).1 (zE 0)).d, .d (int (cond d 0 20))]) [] := e14k8 b hb s hI
      cases hd : doneB (readK 8 s).2
      · exact h false hd
      · exact h true hd
    · have h : ∀ d, doneB (readK 9 s).2 = d → VEv Tryd.prog gl 14 [.d (bs b)] [] (.tuple [.d (cond d (readK 9 s).1 (zE 0)).d, .d (int (cond d 0 20))]) [] := e14k9 b hb s hI
      cases hd : doneB (readK 9 s).2
      · exact h false hd
      · exact h true hd
    · have h : ∀ d, doneB (readK 10 s).2 = d → VEv Tryd.prog gl 14 [.d (bs b)] [] (.tuple [.d (cond d (readK 10 s).1 (zE 0)).d, .d (int (cond d 0 20))]) [] := e14k10 b hb s hI
      cases hd : doneB (readK 10 s).2
      · exact h false hd
      · exact h true hd
    · have h : ∀ d, doneB (readK 11 s).2 = d → VEv Tryd.prog gl 14 [.d (bs b)] [] (.tuple [.d (cond d (readK 11 s).1 (zE 0)).d, .d (int (cond d 0 20))]) [] := e14k11 b hb s hI
      cases hd : doneB (readK 11 s).2
      · exact h false hd
      · exact h true hd
    · have h : ∀ d, doneB (readK 12 s).2 = d → VEv Tryd.prog gl 14 [.d (bs b)] [] (.tuple [.d (cond d (readK 12 s).1 (zE 0)).d, .d (int (cond d 0 20))]) [] := e14k12 b hb s hI
      cases hd : doneB (readK 12 s).2
      · exact h false hd
      · exact h true hd
    · have h : ∀ d, doneB (readK 13 s).2 = d → VEv Tryd.prog gl 14 [.d (bs b)] [] (.tuple [.d (cond d (readK 13 s).1 (zE 0)).d, .d (int (cond d 0 20))]) [] := e14k13 b hb s hI
      cases hd : doneB (readK 13 s).2
      · exact h false hd
      · exact h true hd
  · have hr : readK k s = (zE 0, ⟨s.b, true⟩) := by
      unfold readK
      repeat rw [if_neg (by omega)]
    rw [hr]
    exact e14no b hb k s hI hk
end Go.Proofs.YthalcnhgnadmlaaDoor
