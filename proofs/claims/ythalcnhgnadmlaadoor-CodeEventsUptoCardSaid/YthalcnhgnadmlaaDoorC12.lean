/- Bytes: events, written. Conditions: none. -/
import Derived.Test.YthalcnhgnadmlaaDoorC11
set_option maxRecDepth 100000
namespace Go.Proofs.YthalcnhgnadmlaaDoor
open Go Go.Vm

theorem e11 (e : Ev) (he : EvOk e) : VEv Tryd.prog gl 11 [.d e.d] [] (.d (.bool e.plainB)) [] := by
  by_cases h : e = e.only
  · exact e11yes e he h
  · exact e11no e he h

theorem e7no (e : Ev) (ho : EvOk e) (hp : e.plainB = false) : VEv Tryd.prog gl 7 [.d e.d] [] (.tuple [.d (bs []), .d (int 20)]) [] := by
  have h11 := e11 e ho
  rw [hp] at h11
  refine cp7.vev ?_
  conv => whnf
  repeat ((first | (apply guardI; · kernel_rfl) | (apply condT; · assumption) | (apply condF; · assumption) | (apply condNT; · assumption) | (apply condNF; · assumption)); conv => whnf)
  refine ⟨_, _, h11, ?_⟩
  conv => whnf
  repeat ((first | (apply guardI; · kernel_rfl) | (apply condT; · assumption) | (apply condF; · assumption) | (apply condNT; · assumption) | (apply condNF; · assumption)); conv => whnf)
  exact ⟨by kernel_rfl, by kernel_rfl⟩

set_option maxHeartbeats 4000000 in
theorem e7k1 (e : Ev) (ho : EvOk e) (hr : EvR e) (hp : e.plainB = true) (hk : e.k = 1) (hb : (encEv e).length < 2000000000) : VEv Tryd.prog gl 7 [.d e.d] [] (.tuple [.d (bs (encEv e)), .d (int 0)]) [] := by
  have h11 := e11 e ho
  rw [hp] at h11
  clear hp
  have hB : BND = 70368744177664 := rfl
  have hS : SM = 4294967296 := rfl
  have h20 : ∀ b : Bs, b.length + (encPs e.ps).length + 100 < BND → VEv Tryd.prog gl 20 [.ptr 0 0, .d (psD e.ps)] (outS b) (.tuple []) (outS (b ++ encPs e.ps)) := fun b h => e20 e.ps ho.ps (pt_ok ho hr) b h
  have h19 : ∀ b : Bs, b.length + (encTb e.s e.r).length + 4294967396 < BND → VEv Tryd.prog gl 19 [.ptr 0 0, .d (Tb.d ⟨e.s, e.r⟩)] (outS b) (.ptr 0 0) (outS (b ++ encTb e.s e.r)) := fun b h => e19 e.s e.r ho.s (co_ok ho hr) ho.r ho.rr (va_ok ho hr) b h
  have h16k : ∀ b : Bs, b.length + 9 < BND → _ := e16 e.k hr.k
  have h16i : ∀ b : Bs, b.length + 9 < BND → _ := e16 e.id hr.id
  have h16n : ∀ b : Bs, b.length + 9 < BND → _ := e16 e.n hr.n
  have h16e : ∀ b : Bs, b.length + 9 < BND → _ := e16 e.err hr.err
  have h18 : ∀ b : Bs, b.length + 18 + e.pa.length < BND → _ := e18 ⟨e.pa, e.pi⟩ ho.pa hr.pi
  have h21 : ∀ b : Bs, b.length + 9 < BND → _ := e21 e.flag
  have h17 : ∀ b : Bs, b.length + 9 + e.text.length < BND → _ := e17 e.text ho.text
  have hpa : e.pa.length < SM := ho.pa
  have htx : e.text.length < SM := ho.text
  have h22 := fun b => e22 b
  obtain ⟨k, id, n, text, pa, pi, ps, s, r, err, flag⟩ := e
  simp only at hpa htx
  clear ho hr
  simp only at hk
  subst hk
  have he : (encEv ⟨1, id, n, text, pa, pi, ps, s, r, err, flag⟩) = encI 1 ++ (encTx text) := rfl
  rw [he] at hb ⊢
  have hb' := hb
  try simp only [List.length_append] at hb
  have hl0 := encI_len 1
  have c0 := h16k [] (by show 0 + 9 < 70368744177664; decide)
  have c1 := h17 (encI 1) (by (try simp only [List.length_append]); omega)
  have e : encI 1 ++ encTx text = encI 1 ++ (encTx text) := by simp
  have c := h22 (encI 1 ++ encTx text) (by rw [e]; omega)
  rw [← e]
  clear e hb hb' he h16k h16i h16n h16e h18 h21 h17 h19 h20 h22
  refine cp7.vev ?_
  conv => whnf
  repeat ((first | (apply guardI; · kernel_rfl) | (apply condT; · assumption) | (apply condF; · assumption) | (apply condNT; · assumption) | (apply condNF; · assumption)); conv => whnf)
  refine ⟨_, _, h11, ?_⟩
  conv => whnf
  repeat ((first | (apply guardI; · kernel_rfl) | (apply condT; · assumption) | (apply condF; · assumption) | (apply condNT; · assumption) | (apply condNF; · assumption)); conv => whnf)
  refine ⟨_, _, c0, ?_⟩
  conv => whnf
  repeat ((first | (apply guardI; · kernel_rfl) | (apply condT; · assumption) | (apply condF; · assumption) | (apply condNT; · assumption) | (apply condNF; · assumption)); conv => whnf)
  refine ⟨_, _, c1, ?_⟩
  conv => whnf
  repeat ((first | (apply guardI; · kernel_rfl) | (apply condT; · assumption) | (apply condF; · assumption) | (apply condNT; · assumption) | (apply condNF; · assumption)); conv => whnf)
  refine ⟨_, _, c, ?_⟩
  conv => whnf
  repeat ((first | (apply guardI; · kernel_rfl) | (apply condT; · assumption) | (apply condF; · assumption) | (apply condNT; · assumption) | (apply condNF; · assumption)); conv => whnf)
  exact ⟨by kernel_rfl, by kernel_rfl⟩

set_option maxHeartbeats 4000000 in
theorem e7k2 (e : Ev) (ho : EvOk e) (hr : EvR e) (hp : e.plainB = true) (hk : e.k = 2) (hb : (encEv e).length < 2000000000) : VEv Tryd.prog gl 7 [.d e.d] [] (.tuple [.d (bs (encEv e)), .d (int 0)]) [] := by
  have h11 := e11 e ho
  rw [hp] at h11
  clear hp
  have hB : BND = 70368744177664 := rfl
  have hS : SM = 4294967296 := rfl
  have h20 : ∀ b : Bs, b.length + (encPs e.ps).length + 100 < BND → VEv Tryd.prog gl 20 [.ptr 0 0, .d (psD e.ps)] (outS b) (.tuple []) (outS (b ++ encPs e.ps)) := fun b h => e20 e.ps ho.ps (pt_ok ho hr) b h
  have h19 : ∀ b : Bs, b.length + (encTb e.s e.r).length + 4294967396 < BND → VEv Tryd.prog gl 19 [.ptr 0 0, .d (Tb.d ⟨e.s, e.r⟩)] (outS b) (.ptr 0 0) (outS (b ++ encTb e.s e.r)) := fun b h => e19 e.s e.r ho.s (co_ok ho hr) ho.r ho.rr (va_ok ho hr) b h
  have h16k : ∀ b : Bs, b.length + 9 < BND → _ := e16 e.k hr.k
  have h16i : ∀ b : Bs, b.length + 9 < BND → _ := e16 e.id hr.id
  have h16n : ∀ b : Bs, b.length + 9 < BND → _ := e16 e.n hr.n
  have h16e : ∀ b : Bs, b.length + 9 < BND → _ := e16 e.err hr.err
  have h18 : ∀ b : Bs, b.length + 18 + e.pa.length < BND → _ := e18 ⟨e.pa, e.pi⟩ ho.pa hr.pi
  have h21 : ∀ b : Bs, b.length + 9 < BND → _ := e21 e.flag
  have h17 : ∀ b : Bs, b.length + 9 + e.text.length < BND → _ := e17 e.text ho.text
  have hpa : e.pa.length < SM := ho.pa
  have htx : e.text.length < SM := ho.text
  have h22 := fun b => e22 b
  obtain ⟨k, id, n, text, pa, pi, ps, s, r, err, flag⟩ := e
  simp only at hpa htx
  clear ho hr
  simp only at hk
  subst hk
  have he : (encEv ⟨2, id, n, text, pa, pi, ps, s, r, err, flag⟩) = encI 2 ++ (encPt ⟨pa, pi⟩ ++ encTb s r) := rfl
  rw [he] at hb ⊢
  have hb' := hb
  try simp only [List.length_append] at hb
  have hl0 := encI_len 2
  have c0 := h16k [] (by show 0 + 9 < 70368744177664; decide)
  have c1 := h18 (encI 2) (by (try simp only [List.length_append]); omega)
  have c2 := h19 (encI 2 ++ encPt ⟨pa, pi⟩) (by (try simp only [List.length_append]); omega)
  have e : encI 2 ++ encPt ⟨pa, pi⟩ ++ encTb s r = encI 2 ++ (encPt ⟨pa, pi⟩ ++ encTb s r) := by simp
  have c := h22 (encI 2 ++ encPt ⟨pa, pi⟩ ++ encTb s r) (by rw [e]; omega)
  rw [← e]
  clear e hb hb' he h16k h16i h16n h16e h18 h21 h17 h19 h20 h22
  refine cp7.vev ?_
  conv => whnf
  repeat ((first | (apply guardI; · kernel_rfl) | (apply condT; · assumption) | (apply condF; · assumption) | (apply condNT; · assumption) | (apply condNF; · assumption)); conv => whnf)
  refine ⟨_, _, h11, ?_⟩
  conv => whnf
  repeat ((first | (apply guardI; · kernel_rfl) | (apply condT; · assumption) | (apply condF; · assumption) | (apply condNT; · assumption) | (apply condNF; · assumption)); conv => whnf)
  refine ⟨_, _, c0, ?_⟩
  conv => whnf
  repeat ((first | (apply guardI; · kernel_rfl) | (apply condT; · assumption) | (apply condF; · assumption) | (apply condNT; · assumption) | (apply condNF; · assumption)); conv => whnf)
  refine ⟨_, _, c1, ?_⟩
  conv => whnf
  repeat ((first | (apply guardI; · kernel_rfl) | (apply condT; · assumption) | (apply condF; · assumption) | (apply condNT; · assumption) | (apply condNF; · assumption)); conv => whnf)
  refine ⟨_, _, c2, ?_⟩
  conv => whnf
  repeat ((first | (apply guardI; · kernel_rfl) | (apply condT; · assumption) | (apply condF; · assumption) | (apply condNT; · assumption) | (apply condNF; · assumption)); conv => whnf)
  refine ⟨_, _, c, ?_⟩
  conv => whnf
  repeat ((first | (apply guardI; · kernel_rfl) | (apply condT; · assumption) | (apply condF; · assumption) | (apply condNT; · assumption) | (apply condNF; · assumption)); conv => whnf)
  exact ⟨by kernel_rfl, by kernel_rfl⟩

set_option maxHeartbeats 4000000 in
theorem e7k3 (e : Ev) (ho : EvOk e) (hr : EvR e) (hp : e.plainB = true) (hk : e.k = 3) (hb : (encEv e).length < 2000000000) : VEv Tryd.prog gl 7 [.d e.d] [] (.tuple [.d (bs (encEv e)), .d (int 0)]) [] := by
  have h11 := e11 e ho
  rw [hp] at h11
  clear hp
  have hB : BND = 70368744177664 := rfl
  have hS : SM = 4294967296 := rfl
  have h20 : ∀ b : Bs, b.length + (encPs e.ps).length + 100 < BND → VEv Tryd.prog gl 20 [.ptr 0 0, .d (psD e.ps)] (outS b) (.tuple []) (outS (b ++ encPs e.ps)) := fun b h => e20 e.ps ho.ps (pt_ok ho hr) b h
  have h19 : ∀ b : Bs, b.length + (encTb e.s e.r).length + 4294967396 < BND → VEv Tryd.prog gl 19 [.ptr 0 0, .d (Tb.d ⟨e.s, e.r⟩)] (outS b) (.ptr 0 0) (outS (b ++ encTb e.s e.r)) := fun b h => e19 e.s e.r ho.s (co_ok ho hr) ho.r ho.rr (va_ok ho hr) b h
  have h16k : ∀ b : Bs, b.length + 9 < BND → _ := e16 e.k hr.k
  have h16i : ∀ b : Bs, b.length + 9 < BND → _ := e16 e.id hr.id
  have h16n : ∀ b : Bs, b.length + 9 < BND → _ := e16 e.n hr.n
  have h16e : ∀ b : Bs, b.length + 9 < BND → _ := e16 e.err hr.err
  have h18 : ∀ b : Bs, b.length + 18 + e.pa.length < BND → _ := e18 ⟨e.pa, e.pi⟩ ho.pa hr.pi
  have h21 : ∀ b : Bs, b.length + 9 < BND → _ := e21 e.flag
  have h17 : ∀ b : Bs, b.length + 9 + e.text.length < BND → _ := e17 e.text ho.text
  have hpa : e.pa.length < SM := ho.pa
  have htx : e.text.length < SM := ho.text
  have h22 := fun b => e22 b
  obtain ⟨k, id, n, text, pa, pi, ps, s, r, err, flag⟩ := e
  simp only at hpa htx
  clear ho hr
  simp only at hk
  subst hk
  have he : (encEv ⟨3, id, n, text, pa, pi, ps, s, r, err, flag⟩) = encI 3 ++ (encI n) := rfl
  rw [he] at hb ⊢
  have hb' := hb
  try simp only [List.length_append] at hb
  have hl0 := encI_len 3
  have c0 := h16k [] (by show 0 + 9 < 70368744177664; decide)
  have c1 := h16n (encI 3) (by (try simp only [List.length_append]); omega)
  have e : encI 3 ++ encI n = encI 3 ++ (encI n) := by simp
  have c := h22 (encI 3 ++ encI n) (by rw [e]; omega)
  rw [← e]
  clear e hb hb' he h16k h16i h16n h16e h18 h21 h17 h19 h20 h22
  refine cp7.vev ?_
  conv => whnf
  repeat ((first | (apply guardI; · kernel_rfl) | (apply condT; · assumption) | (apply condF; · assumption) | (apply condNT; · assumption) | (apply condNF; · assumption)); conv => whnf)
  refine ⟨_, _, h11, ?_⟩
  conv => whnf
  repeat ((first | (apply guardI; · kernel_rfl) | (apply condT; · assumption) | (apply condF; · assumption) | (apply condNT; · assumption) | (apply condNF; · assumption)); conv => whnf)
  refine ⟨_, _, c0, ?_⟩
  conv => whnf
  repeat ((first | (apply guardI; · kernel_rfl) | (apply condT; · assumption) | (apply condF; · assumption) | (apply condNT; · assumption) | (apply condNF; · assumption)); conv => whnf)
  refine ⟨_, _, c1, ?_⟩
  conv => whnf
  repeat ((first | (apply guardI; · kernel_rfl) | (apply condT; · assumption) | (apply condF; · assumption) | (apply condNT; · assumption) | (apply condNF; · assumption)); conv => whnf)
  refine ⟨_, _, c, ?_⟩
  conv => whnf
  repeat ((first | (apply guardI; · kernel_rfl) | (apply condT; · assumption) | (apply condF; · assumption) | (apply condNT; · assumption) | (apply condNF; · assumption)); conv => whnf)
  exact ⟨by kernel_rfl, by kernel_rfl⟩

set_option maxHeartbeats 4000000 in
theorem e7k4 (e : Ev) (ho : EvOk e) (hr : EvR e) (hp : e.plainB = true) (hk : e.k = 4) (hb : (encEv e).length < 2000000000) : VEv Tryd.prog gl 7 [.d e.d] [] (.tuple [.d (bs (encEv e)), .d (int 0)]) [] := by
  have h11 := e11 e ho
  rw [hp] at h11
  clear hp
  have hB : BND = 70368744177664 := rfl
  have hS : SM = 4294967296 := rfl
  have h20 : ∀ b : Bs, b.length + (encPs e.ps).length + 100 < BND → VEv Tryd.prog gl 20 [.ptr 0 0, .d (psD e.ps)] (outS b) (.tuple []) (outS (b ++ encPs e.ps)) := fun b h => e20 e.ps ho.ps (pt_ok ho hr) b h
  have h19 : ∀ b : Bs, b.length + (encTb e.s e.r).length + 4294967396 < BND → VEv Tryd.prog gl 19 [.ptr 0 0, .d (Tb.d ⟨e.s, e.r⟩)] (outS b) (.ptr 0 0) (outS (b ++ encTb e.s e.r)) := fun b h => e19 e.s e.r ho.s (co_ok ho hr) ho.r ho.rr (va_ok ho hr) b h
  have h16k : ∀ b : Bs, b.length + 9 < BND → _ := e16 e.k hr.k
  have h16i : ∀ b : Bs, b.length + 9 < BND → _ := e16 e.id hr.id
  have h16n : ∀ b : Bs, b.length + 9 < BND → _ := e16 e.n hr.n
  have h16e : ∀ b : Bs, b.length + 9 < BND → _ := e16 e.err hr.err
  have h18 : ∀ b : Bs, b.length + 18 + e.pa.length < BND → _ := e18 ⟨e.pa, e.pi⟩ ho.pa hr.pi
  have h21 : ∀ b : Bs, b.length + 9 < BND → _ := e21 e.flag
  have h17 : ∀ b : Bs, b.length + 9 + e.text.length < BND → _ := e17 e.text ho.text
  have hpa : e.pa.length < SM := ho.pa
  have htx : e.text.length < SM := ho.text
  have h22 := fun b => e22 b
  obtain ⟨k, id, n, text, pa, pi, ps, s, r, err, flag⟩ := e
  simp only at hpa htx
  clear ho hr
  simp only at hk
  subst hk
  have he : (encEv ⟨4, id, n, text, pa, pi, ps, s, r, err, flag⟩) = encI 4 ++ (encTx text ++ encI n ++ encPs ps ++ encB flag) := rfl
  rw [he] at hb ⊢
  have hb' := hb
  try simp only [List.length_append] at hb
  have hl0 := encI_len 4
  have c0 := h16k [] (by show 0 + 9 < 70368744177664; decide)
  have c1 := h17 (encI 4) (by (try simp only [List.length_append]); omega)
  have c2 := h16n (encI 4 ++ encTx text) (by (try simp only [List.length_append]); omega)
  have c3 := h20 (encI 4 ++ encTx text ++ encI n) (by (try simp only [List.length_append]); omega)
  have c4 := h21 (encI 4 ++ encTx text ++ encI n ++ encPs ps) (by (try simp only [List.length_append]); omega)
  have e : encI 4 ++ encTx text ++ encI n ++ encPs ps ++ encB flag = encI 4 ++ (encTx text ++ encI n ++ encPs ps ++ encB flag) := by simp
  have c := h22 (encI 4 ++ encTx text ++ encI n ++ encPs ps ++ encB flag) (by rw [e]; omega)
  rw [← e]
  clear e hb hb' he h16k h16i h16n h16e h18 h21 h17 h19 h20 h22
  refine cp7.vev ?_
  conv => whnf
  repeat ((first | (apply guardI; · kernel_rfl) | (apply condT; · assumption) | (apply condF; · assumption) | (apply condNT; · assumption) | (apply condNF; · assumption)); conv => whnf)
  refine ⟨_, _, h11, ?_⟩
  conv => whnf
  repeat ((first | (apply guardI; · kernel_rfl) | (apply condT; · assumption) | (apply condF; · assumption) | (apply condNT; · assumption) | (apply condNF; · assumption)); conv => whnf)
  refine ⟨_, _, c0, ?_⟩
  conv => whnf
  repeat ((first | (apply guardI; · kernel_rfl) | (apply condT; · assumption) | (apply condF; · assumption) | (apply condNT; · assumption) | (apply condNF; · assumption)); conv => whnf)
  refine ⟨_, _, c1, ?_⟩
  conv => whnf
  repeat ((first | (apply guardI; · kernel_rfl) | (apply condT; · assumption) | (apply condF; · assumption) | (apply condNT; · assumption) | (apply condNF; · assumption)); conv => whnf)
  refine ⟨_, _, c2, ?_⟩
  conv => whnf
  repeat ((first | (apply guardI; · kernel_rfl) | (apply condT; · assumption) | (apply condF; · assumption) | (apply condNT; · assumption) | (apply condNF; · assumption)); conv => whnf)
  refine ⟨_, _, c3, ?_⟩
  conv => whnf
  repeat ((first | (apply guardI; · kernel_rfl) | (apply condT; · assumption) | (apply condF; · assumption) | (apply condNT; · assumption) | (apply condNF; · assumption)); conv => whnf)
  refine ⟨_, _, c4, ?_⟩
  conv => whnf
  repeat ((first | (apply guardI; · kernel_rfl) | (apply condT; · assumption) | (apply condF; · assumption) | (apply condNT; · assumption) | (apply condNF; · assumption)); conv => whnf)
  refine ⟨_, _, c, ?_⟩
  conv => whnf
  repeat ((first | (apply guardI; · kernel_rfl) | (apply condT; · assumption) | (apply condF; · assumption) | (apply condNT; · assumption) | (apply condNF; · assumption)); conv => whnf)
  exact ⟨by kernel_rfl, by kernel_rfl⟩

set_option maxHeartbeats 4000000 in
theorem e7k5 (e : Ev) (ho : EvOk e) (hr : EvR e) (hp : e.plainB = true) (hk : e.k = 5) (hb : (encEv e).length < 2000000000) : VEv Tryd.prog gl 7 [.d e.d] [] (.tuple [.d (bs (encEv e)), .d (int 0)]) [] := by
  have h11 := e11 e ho
  rw [hp] at h11
  clear hp
  have hB : BND = 70368744177664 := rfl
  have hS : SM = 4294967296 := rfl
  have h20 : ∀ b : Bs, b.length + (encPs e.ps).length + 100 < BND → VEv Tryd.prog gl 20 [.ptr 0 0, .d (psD e.ps)] (outS b) (.tuple []) (outS (b ++ encPs e.ps)) := fun b h => e20 e.ps ho.ps (pt_ok ho hr) b h
  have h19 : ∀ b : Bs, b.length + (encTb e.s e.r).length + 4294967396 < BND → VEv Tryd.prog gl 19 [.ptr 0 0, .d (Tb.d ⟨e.s, e.r⟩)] (outS b) (.ptr 0 0) (outS (b ++ encTb e.s e.r)) := fun b h => e19 e.s e.r ho.s (co_ok ho hr) ho.r ho.rr (va_ok ho hr) b h
  have h16k : ∀ b : Bs, b.length + 9 < BND → _ := e16 e.k hr.k
  have h16i : ∀ b : Bs, b.length + 9 < BND → _ := e16 e.id hr.id
  have h16n : ∀ b : Bs, b.length + 9 < BND → _ := e16 e.n hr.n
  have h16e : ∀ b : Bs, b.length + 9 < BND → _ := e16 e.err hr.err
  have h18 : ∀ b : Bs, b.length + 18 + e.pa.length < BND → _ := e18 ⟨e.pa, e.pi⟩ ho.pa hr.pi
  have h21 : ∀ b : Bs, b.length + 9 < BND → _ := e21 e.flag
  have h17 : ∀ b : Bs, b.length + 9 + e.text.length < BND → _ := e17 e.text ho.text
  have hpa : e.pa.length < SM := ho.pa
  have htx : e.text.length < SM := ho.text
  have h22 := fun b => e22 b
  obtain ⟨k, id, n, text, pa, pi, ps, s, r, err, flag⟩ := e
  simp only at hpa htx
  clear ho hr
  simp only at hk
  subst hk
  have he : (encEv ⟨5, id, n, text, pa, pi, ps, s, r, err, flag⟩) = encI 5 ++ (encPs ps ++ encB flag) := rfl
  rw [he] at hb ⊢
  have hb' := hb
  try simp only [List.length_append] at hb
  have hl0 := encI_len 5
  have c0 := h16k [] (by show 0 + 9 < 70368744177664; decide)
  have c1 := h20 (encI 5) (by (try simp only [List.length_append]); omega)
  have c2 := h21 (encI 5 ++ encPs ps) (by (try simp only [List.length_append]); omega)
  have e : encI 5 ++ encPs ps ++ encB flag = encI 5 ++ (encPs ps ++ encB flag) := by simp
  have c := h22 (encI 5 ++ encPs ps ++ encB flag) (by rw [e]; omega)
  rw [← e]
  clear e hb hb' he h16k h16i h16n h16e h18 h21 h17 h19 h20 h22
  refine cp7.vev ?_
  conv => whnf
  repeat ((first | (apply guardI; · kernel_rfl) | (apply condT; · assumption) | (apply condF; · assumption) | (apply condNT; · assumption) | (apply condNF; · assumption)); conv => whnf)
  refine ⟨_, _, h11, ?_⟩
  conv => whnf
  repeat ((first | (apply guardI; · kernel_rfl) | (apply condT; · assumption) | (apply condF; · assumption) | (apply condNT; · assumption) | (apply condNF; · assumption)); conv => whnf)
  refine ⟨_, _, c0, ?_⟩
  conv => whnf
  repeat ((first | (apply guardI; · kernel_rfl) | (apply condT; · assumption) | (apply condF; · assumption) | (apply condNT; · assumption) | (apply condNF; · assumption)); conv => whnf)
  refine ⟨_, _, c1, ?_⟩
  conv => whnf
  repeat ((first | (apply guardI; · kernel_rfl) | (apply condT; · assumption) | (apply condF; · assumption) | (apply condNT; · assumption) | (apply condNF; · assumption)); conv => whnf)
  refine ⟨_, _, c2, ?_⟩
  conv => whnf
  repeat ((first | (apply guardI; · kernel_rfl) | (apply condT; · assumption) | (apply condF; · assumption) | (apply condNT; · assumption) | (apply condNF; · assumption)); conv => whnf)
  refine ⟨_, _, c, ?_⟩
  conv => whnf
  repeat ((first | (apply guardI; · kernel_rfl) | (apply condT; · assumption) | (apply condF; · assumption) | (apply condNT; · assumption) | (apply condNF; · assumption)); conv => whnf)
  exact ⟨by kernel_rfl, by kernel_rfl⟩

set_option maxHeartbeats 4000000 in
theorem e7k6 (e : Ev) (ho : EvOk e) (hr : EvR e) (hp : e.plainB = true) (hk : e.k = 6) (hb : (encEv e).length < 2000000000) : VEv Tryd.prog gl 7 [.d e.d] [] (.tuple [.d (bs (encEv e)), .d (int 0)]) [] := by
  have h11 := e11 e ho
  rw [hp] at h11
  clear hp
  have hB : BND = 70368744177664 := rfl
  have hS : SM = 4294967296 := rfl
  have h20 : ∀ b : Bs, b.length + (encPs e.ps).length + 100 < BND → VEv Tryd.prog gl 20 [.ptr 0 0, .d (psD e.ps)] (outS b) (.tuple []) (outS (b ++ encPs e.ps)) := fun b h => e20 e.ps ho.ps (pt_ok ho hr) b h
  have h19 : ∀ b : Bs, b.length + (encTb e.s e.r).length + 4294967396 < BND → VEv Tryd.prog gl 19 [.ptr 0 0, .d (Tb.d ⟨e.s, e.r⟩)] (outS b) (.ptr 0 0) (outS (b ++ encTb e.s e.r)) := fun b h => e19 e.s e.r ho.s (co_ok ho hr) ho.r ho.rr (va_ok ho hr) b h
  have h16k : ∀ b : Bs, b.length + 9 < BND → _ := e16 e.k hr.k
  have h16i : ∀ b : Bs, b.length + 9 < BND → _ := e16 e.id hr.id
  have h16n : ∀ b : Bs, b.length + 9 < BND → _ := e16 e.n hr.n
  have h16e : ∀ b : Bs, b.length + 9 < BND → _ := e16 e.err hr.err
  have h18 : ∀ b : Bs, b.length + 18 + e.pa.length < BND → _ := e18 ⟨e.pa, e.pi⟩ ho.pa hr.pi
  have h21 : ∀ b : Bs, b.length + 9 < BND → _ := e21 e.flag
  have h17 : ∀ b : Bs, b.length + 9 + e.text.length < BND → _ := e17 e.text ho.text
  have hpa : e.pa.length < SM := ho.pa
  have htx : e.text.length < SM := ho.text
  have h22 := fun b => e22 b
  obtain ⟨k, id, n, text, pa, pi, ps, s, r, err, flag⟩ := e
  simp only at hpa htx
  clear ho hr
  simp only at hk
  subst hk
  have he : (encEv ⟨6, id, n, text, pa, pi, ps, s, r, err, flag⟩) = encI 6 ++ (encI id) := rfl
  rw [he] at hb ⊢
  have hb' := hb
  try simp only [List.length_append] at hb
  have hl0 := encI_len 6
  have c0 := h16k [] (by show 0 + 9 < 70368744177664; decide)
  have c1 := h16i (encI 6) (by (try simp only [List.length_append]); omega)
  have e : encI 6 ++ encI id = encI 6 ++ (encI id) := by simp
  have c := h22 (encI 6 ++ encI id) (by rw [e]; omega)
  rw [← e]
  clear e hb hb' he h16k h16i h16n h16e h18 h21 h17 h19 h20 h22
  refine cp7.vev ?_
  conv => whnf
  repeat ((first | (apply guardI; · kernel_rfl) | (apply condT; · assumption) | (apply condF; · assumption) | (apply condNT; · assumption) | (apply condNF; · assumption)); conv => whnf)
  refine ⟨_, _, h11, ?_⟩
  conv => whnf
  repeat ((first | (apply guardI; · kernel_rfl) | (apply condT; · assumption) | (apply condF; · assumption) | (apply condNT; · assumption) | (apply condNF; · assumption)); conv => whnf)
  refine ⟨_, _, c0, ?_⟩
  conv => whnf
  repeat ((first | (apply guardI; · kernel_rfl) | (apply condT; · assumption) | (apply condF; · assumption) | (apply condNT; · assumption) | (apply condNF; · assumption)); conv => whnf)
  refine ⟨_, _, c1, ?_⟩
  conv => whnf
  repeat ((first | (apply guardI; · kernel_rfl) | (apply condT; · assumption) | (apply condF; · assumption) | (apply condNT; · assumption) | (apply condNF; · assumption)); conv => whnf)
  refine ⟨_, _, c, ?_⟩
  conv => whnf
  repeat ((first | (apply guardI; · kernel_rfl) | (apply condT; · assumption) | (apply condF; · assumption) | (apply condNT; · assumption) | (apply condNF; · assumption)); conv => whnf)
  exact ⟨by kernel_rfl, by kernel_rfl⟩

set_option maxHeartbeats 4000000 in
theorem e7k7 (e : Ev) (ho : EvOk e) (hr : EvR e) (hp : e.plainB = true) (hk : e.k = 7) (hb : (encEv e).length < 2000000000) : VEv Tryd.prog gl 7 [.d e.d] [] (.tuple [.d (bs (encEv e)), .d (int 0)]) [] := by
  have h11 := e11 e ho
  rw [hp] at h11
  clear hp
  have hB : BND = 70368744177664 := rfl
  have hS : SM = 4294967296 := rfl
  have h20 : ∀ b : Bs, b.length + (encPs e.ps).length + 100 < BND → VEv Tryd.prog gl 20 [.ptr 0 0, .d (psD e.ps)] (outS b) (.tuple []) (outS (b ++ encPs e.ps)) := fun b h => e20 e.ps ho.ps (pt_ok ho hr) b h
  have h19 : ∀ b : Bs, b.length + (encTb e.s e.r).length + 4294967396 < BND → VEv Tryd.prog gl 19 [.ptr 0 0, .d (Tb.d ⟨e.s, e.r⟩)] (outS b) (.ptr 0 0) (outS (b ++ encTb e.s e.r)) := fun b h => e19 e.s e.r ho.s (co_ok ho hr) ho.r ho.rr (va_ok ho hr) b h
  have h16k : ∀ b : Bs, b.length + 9 < BND → _ := e16 e.k hr.k
  have h16i : ∀ b : Bs, b.length + 9 < BND → _ := e16 e.id hr.id
  have h16n : ∀ b : Bs, b.length + 9 < BND → _ := e16 e.n hr.n
  have h16e : ∀ b : Bs, b.length + 9 < BND → _ := e16 e.err hr.err
  have h18 : ∀ b : Bs, b.length + 18 + e.pa.length < BND → _ := e18 ⟨e.pa, e.pi⟩ ho.pa hr.pi
  have h21 : ∀ b : Bs, b.length + 9 < BND → _ := e21 e.flag
  have h17 : ∀ b : Bs, b.length + 9 + e.text.length < BND → _ := e17 e.text ho.text
  have hpa : e.pa.length < SM := ho.pa
  have htx : e.text.length < SM := ho.text
  have h22 := fun b => e22 b
  obtain ⟨k, id, n, text, pa, pi, ps, s, r, err, flag⟩ := e
  simp only at hpa htx
  clear ho hr
  simp only at hk
  subst hk
  have he : (encEv ⟨7, id, n, text, pa, pi, ps, s, r, err, flag⟩) = encI 7 ++ (encPt ⟨pa, pi⟩) := rfl
  rw [he] at hb ⊢
  have hb' := hb
  try simp only [List.length_append] at hb
  have hl0 := encI_len 7
  have c0 := h16k [] (by show 0 + 9 < 70368744177664; decide)
  have c1 := h18 (encI 7) (by (try simp only [List.length_append]); omega)
  have e : encI 7 ++ encPt ⟨pa, pi⟩ = encI 7 ++ (encPt ⟨pa, pi⟩) := by simp
  have c := h22 (encI 7 ++ encPt ⟨pa, pi⟩) (by rw [e]; omega)
  rw [← e]
  clear e hb hb' he h16k h16i h16n h16e h18 h21 h17 h19 h20 h22
  refine cp7.vev ?_
  conv => whnf
  repeat ((first | (apply guardI; · kernel_rfl) | (apply condT; · assumption) | (apply condF; · assumption) | (apply condNT; · assumption) | (apply condNF; · assumption)); conv => whnf)
  refine ⟨_, _, h11, ?_⟩
  conv => whnf
  repeat ((first | (apply guardI; · kernel_rfl) | (apply condT; · assumption) | (apply condF; · assumption) | (apply condNT; · assumption) | (apply condNF; · assumption)); conv => whnf)
  refine ⟨_, _, c0, ?_⟩
  conv => whnf
  repeat ((first | (apply guardI; · kernel_rfl) | (apply condT; · assumption) | (apply condF; · assumption) | (apply condNT; · assumption) | (apply condNF; · assumption)); conv => whnf)
  refine ⟨_, _, c1, ?_⟩
  conv => whnf
  repeat ((first | (apply guardI; · kernel_rfl) | (apply condT; · assumption) | (apply condF; · assumption) | (apply condNT; · assumption) | (apply condNF; · assumption)); conv => whnf)
  refine ⟨_, _, c, ?_⟩
  conv => whnf
  repeat ((first | (apply guardI; · kernel_rfl) | (apply condT; · assumption) | (apply condF; · assumption) | (apply condNT; · assumption) | (apply condNF; · assumption)); conv => whnf)
  exact ⟨by kernel_rfl, by kernel_rfl⟩

set_option maxHeartbeats 4000000 in
theorem e7k8 (e : Ev) (ho : EvOk e) (hr : EvR e) (hp : e.plainB = true) (hk : e.k = 8) (hb : (encEv e).length < 2000000000) : VEv Tryd.prog gl 7 [.d e.d] [] (.tuple [.d (bs (encEv e)), .d (int 0)]) [] := by
  have h11 := e11 e ho
  rw [hp] at h11
  clear hp
  have hB : BND = 70368744177664 := rfl
  have hS : SM = 4294967296 := rfl
  have h20 : ∀ b : Bs, b.length + (encPs e.ps).length + 100 < BND → VEv Tryd.prog gl 20 [.ptr 0 0, .d (psD e.ps)] (outS b) (.tuple []) (outS (b ++ encPs e.ps)) := fun b h => e20 e.ps ho.ps (pt_ok ho hr) b h
  have h19 : ∀ b : Bs, b.length + (encTb e.s e.r).length + 4294967396 < BND → VEv Tryd.prog gl 19 [.ptr 0 0, .d (Tb.d ⟨e.s, e.r⟩)] (outS b) (.ptr 0 0) (outS (b ++ encTb e.s e.r)) := fun b h => e19 e.s e.r ho.s (co_ok ho hr) ho.r ho.rr (va_ok ho hr) b h
  have h16k : ∀ b : Bs, b.length + 9 < BND → _ := e16 e.k hr.k
  have h16i : ∀ b : Bs, b.length + 9 < BND → _ := e16 e.id hr.id
  have h16n : ∀ b : Bs, b.length + 9 < BND → _ := e16 e.n hr.n
  have h16e : ∀ b : Bs, b.length + 9 < BND → _ := e16 e.err hr.err
  have h18 : ∀ b : Bs, b.length + 18 + e.pa.length < BND → _ := e18 ⟨e.pa, e.pi⟩ ho.pa hr.pi
  have h21 : ∀ b : Bs, b.length + 9 < BND → _ := e21 e.flag
  have h17 : ∀ b : Bs, b.length + 9 + e.text.length < BND → _ := e17 e.text ho.text
  have hpa : e.pa.length < SM := ho.pa
  have htx : e.text.length < SM := ho.text
  have h22 := fun b => e22 b
  obtain ⟨k, id, n, text, pa, pi, ps, s, r, err, flag⟩ := e
  simp only at hpa htx
  clear ho hr
  simp only at hk
  subst hk
  have he : (encEv ⟨8, id, n, text, pa, pi, ps, s, r, err, flag⟩) = encI 8 ++ (encI id ++ encTb s r) := rfl
  rw [he] at hb ⊢
  have hb' := hb
  try simp only [List.length_append] at hb
  have hl0 := encI_len 8
  have c0 := h16k [] (by show 0 + 9 < 70368744177664; decide)
  have c1 := h16i (encI 8) (by (try simp only [List.length_append]); omega)
  have c2 := h19 (encI 8 ++ encI id) (by (try simp only [List.length_append]); omega)
  have e : encI 8 ++ encI id ++ encTb s r = encI 8 ++ (encI id ++ encTb s r) := by simp
  have c := h22 (encI 8 ++ encI id ++ encTb s r) (by rw [e]; omega)
  rw [← e]
  clear e hb hb' he h16k h16i h16n h16e h18 h21 h17 h19 h20 h22
  refine cp7.vev ?_
  conv => whnf
  repeat ((first | (apply guardI; · kernel_rfl) | (apply condT; · assumption) | (apply condF; · assumption) | (apply condNT; · assumption) | (apply condNF; · assumption)); conv => whnf)
  refine ⟨_, _, h11, ?_⟩
  conv => whnf
  repeat ((first | (apply guardI; · kernel_rfl) | (apply condT; · assumption) | (apply condF; · assumption) | (apply condNT; · assumption) | (apply condNF; · assumption)); conv => whnf)
  refine ⟨_, _, c0, ?_⟩
  conv => whnf
  repeat ((first | (apply guardI; · kernel_rfl) | (apply condT; · assumption) | (apply condF; · assumption) | (apply condNT; · assumption) | (apply condNF; · assumption)); conv => whnf)
  refine ⟨_, _, c1, ?_⟩
  conv => whnf
  repeat ((first | (apply guardI; · kernel_rfl) | (apply condT; · assumption) | (apply condF; · assumption) | (apply condNT; · assumption) | (apply condNF; · assumption)); conv => whnf)
  refine ⟨_, _, c2, ?_⟩
  conv => whnf
  repeat ((first | (apply guardI; · kernel_rfl) | (apply condT; · assumption) | (apply condF; · assumption) | (apply condNT; · assumption) | (apply condNF; · assumption)); conv => whnf)
  refine ⟨_, _, c, ?_⟩
  conv => whnf
  repeat ((first | (apply guardI; · kernel_rfl) | (apply condT; · assumption) | (apply condF; · assumption) | (apply condNT; · assumption) | (apply condNF; · assumption)); conv => whnf)
  exact ⟨by kernel_rfl, by kernel_rfl⟩

set_option maxHeartbeats 4000000 in
theorem e7k9 (e : Ev) (ho : EvOk e) (hr : EvR e) (hp : e.plainB = true) (hk : e.k = 9) (hb : (encEv e).length < 2000000000) : VEv Tryd.prog gl 7 [.d e.d] [] (.tuple [.d (bs (encEv e)), .d (int 0)]) [] := by
  have h11 := e11 e ho
  rw [hp] at h11
  clear hp
  have hB : BND = 70368744177664 := rfl
  have hS : SM = 4294967296 := rfl
  have h20 : ∀ b : Bs, b.length + (encPs e.ps).length + 100 < BND → VEv Tryd.prog gl 20 [.ptr 0 0, .d (psD e.ps)] (outS b) (.tuple []) (outS (b ++ encPs e.ps)) := fun b h => e20 e.ps ho.ps (pt_ok ho hr) b h
  have h19 : ∀ b : Bs, b.length + (encTb e.s e.r).length + 4294967396 < BND → VEv Tryd.prog gl 19 [.ptr 0 0, .d (Tb.d ⟨e.s, e.r⟩)] (outS b) (.ptr 0 0) (outS (b ++ encTb e.s e.r)) := fun b h => e19 e.s e.r ho.s (co_ok ho hr) ho.r ho.rr (va_ok ho hr) b h
  have h16k : ∀ b : Bs, b.length + 9 < BND → _ := e16 e.k hr.k
  have h16i : ∀ b : Bs, b.length + 9 < BND → _ := e16 e.id hr.id
  have h16n : ∀ b : Bs, b.length + 9 < BND → _ := e16 e.n hr.n
  have h16e : ∀ b : Bs, b.length + 9 < BND → _ := e16 e.err hr.err
  have h18 : ∀ b : Bs, b.length + 18 + e.pa.length < BND → _ := e18 ⟨e.pa, e.pi⟩ ho.pa hr.pi
  have h21 : ∀ b : Bs, b.length + 9 < BND → _ := e21 e.flag
  have h17 : ∀ b : Bs, b.length + 9 + e.text.length < BND → _ := e17 e.text ho.text
  have hpa : e.pa.length < SM := ho.pa
  have htx : e.text.length < SM := ho.text
  have h22 := fun b => e22 b
  obtain ⟨k, id, n, text, pa, pi, ps, s, r, err, flag⟩ := e
  simp only at hpa htx
  clear ho hr
  simp only at hk
  subst hk
  have he : (encEv ⟨9, id, n, text, pa, pi, ps, s, r, err, flag⟩) = encI 9 ++ (encI id ++ encI n ++ encI err ++ encB flag) := rfl
  rw [he] at hb ⊢
  have hb' := hb
  try simp only [List.length_append] at hb
  have hl0 := encI_len 9
  have c0 := h16k [] (by show 0 + 9 < 70368744177664; decide)
  have c1 := h16i (encI 9) (by (try simp only [List.length_append]); omega)
  have c2 := h16n (encI 9 ++ encI id) (by (try simp only [List.length_append]); omega)
  have c3 := h16e (encI 9 ++ encI id ++ encI n) (by (try simp only [List.length_append]); omega)
  have c4 := h21 (encI 9 ++ encI id ++ encI n ++ encI err) (by (try simp only [List.length_append]); omega)
  have e : encI 9 ++ encI id ++ encI n ++ encI err ++ encB flag = encI 9 ++ (encI id ++ encI n ++ encI err ++ encB flag) := by simp
  have c := h22 (encI 9 ++ encI id ++ encI n ++ encI err ++ encB flag) (by rw [e]; omega)
  rw [← e]
  clear e hb hb' he h16k h16i h16n h16e h18 h21 h17 h19 h20 h22
  refine cp7.vev ?_
  conv => whnf
  repeat ((first | (apply guardI; · kernel_rfl) | (apply condT; · assumption) | (apply condF; · assumption) | (apply condNT; · assumption) | (apply condNF; · assumption)); conv => whnf)
  refine ⟨_, _, h11, ?_⟩
  conv => whnf
  repeat ((first | (apply guardI; · kernel_rfl) | (apply condT; · assumption) | (apply condF; · assumption) | (apply condNT; · assumption) | (apply condNF; · assumption)); conv => whnf)
  refine ⟨_, _, c0, ?_⟩
  conv => whnf
  repeat ((first | (apply guardI; · kernel_rfl) | (apply condT; · assumption) | (apply condF; · assumption) | (apply condNT; · assumption) | (apply condNF; · assumption)); conv => whnf)
  refine ⟨_, _, c1, ?_⟩
  conv => whnf
  repeat ((first | (apply guardI; · kernel_rfl) | (apply condT; · assumption) | (apply condF; · assumption) | (apply condNT; · assumption) | (apply condNF; · assumption)); conv => whnf)
  refine ⟨_, _, c2, ?_⟩
  conv => whnf
  repeat ((first | (apply guardI; · kernel_rfl) | (apply condT; · assumption) | (apply condF; · assumption) | (apply condNT; · assumption) | (apply condNF; · assumption)); conv => whnf)
  refine ⟨_, _, c3, ?_⟩
  conv => whnf
  repeat ((first | (apply guardI; · kernel_rfl) | (apply condT; · assumption) | (apply condF; · assumption) | (apply condNT; · assumption) | (apply condNF; · assumption)); conv => whnf)
  refine ⟨_, _, c4, ?_⟩
  conv => whnf
  repeat ((first | (apply guardI; · kernel_rfl) | (apply condT; · assumption) | (apply condF; · assumption) | (apply condNT; · assumption) | (apply condNF; · assumption)); conv => whnf)
  refine ⟨_, _, c, ?_⟩
  conv => whnf
  repeat ((first | (apply guardI; · kernel_rfl) | (apply condT; · assumption) | (apply condF; · assumption) | (apply condNT; · assumption) | (apply condNF; · assumption)); conv => whnf)
  exact ⟨by kernel_rfl, by kernel_rfl⟩

set_option maxHeartbeats 4000000 in
theorem e7k10 (e : Ev) (ho : EvOk e) (hr : EvR e) (hp : e.plainB = true) (hk : e.k = 10) (hb : (encEv e).length < 2000000000) : VEv Tryd.prog gl 7 [.d e.d] [] (.tuple [.d (bs (encEv e)), .d (int 0)]) [] := by
  have h11 := e11 e ho
  rw [hp] at h11
  clear hp
  have hB : BND = 70368744177664 := rfl
  have hS : SM = 4294967296 := rfl
  have h20 : ∀ b : Bs, b.length + (encPs e.ps).length + 100 < BND → VEv Tryd.prog gl 20 [.ptr 0 0, .d (psD e.ps)] (outS b) (.tuple []) (outS (b ++ encPs e.ps)) := fun b h => e20 e.ps ho.ps (pt_ok ho hr) b h
  have h19 : ∀ b : Bs, b.length + (encTb e.s e.r).length + 4294967396 < BND → VEv Tryd.prog gl 19 [.ptr 0 0, .d (Tb.d ⟨e.s, e.r⟩)] (outS b) (.ptr 0 0) (outS (b ++ encTb e.s e.r)) := fun b h => e19 e.s e.r ho.s (co_ok ho hr) ho.r ho.rr (va_ok ho hr) b h
  have h16k : ∀ b : Bs, b.length + 9 < BND → _ := e16 e.k hr.k
  have h16i : ∀ b : Bs, b.length + 9 < BND → _ := e16 e.id hr.id
  have h16n : ∀ b : Bs, b.length + 9 < BND → _ := e16 e.n hr.n
  have h16e : ∀ b : Bs, b.length + 9 < BND → _ := e16 e.err hr.err
  have h18 : ∀ b : Bs, b.length + 18 + e.pa.length < BND → _ := e18 ⟨e.pa, e.pi⟩ ho.pa hr.pi
  have h21 : ∀ b : Bs, b.length + 9 < BND → _ := e21 e.flag
  have h17 : ∀ b : Bs, b.length + 9 + e.text.length < BND → _ := e17 e.text ho.text
  have hpa : e.pa.length < SM := ho.pa
  have htx : e.text.length < SM := ho.text
  have h22 := fun b => e22 b
  obtain ⟨k, id, n, text, pa, pi, ps, s, r, err, flag⟩ := e
  simp only at hpa htx
  clear ho hr
  simp only at hk
  subst hk
  have he : (encEv ⟨10, id, n, text, pa, pi, ps, s, r, err, flag⟩) = encI 10 ++ (encI id) := rfl
  rw [he] at hb ⊢
  have hb' := hb
  try simp only [List.length_append] at hb
  have hl0 := encI_len 10
  have c0 := h16k [] (by show 0 + 9 < 70368744177664; decide)
  have c1 := h16i (encI 10) (by (try simp only [List.length_append]); omega)
  have e : encI 10 ++ encI id = encI 10 ++ (encI id) := by simp
  have c := h22 (encI 10 ++ encI id) (by rw [e]; omega)
  rw [← e]
  clear e hb hb' he h16k h16i h16n h16e h18 h21 h17 h19 h20 h22
  refine cp7.vev ?_
  conv => whnf
  repeat ((first | (apply guardI; · kernel_rfl) | (apply condT; · assumption) | (apply condF; · assumption) | (apply condNT; · assumption) | (apply condNF; · assumption)); conv => whnf)
  refine ⟨_, _, h11, ?_⟩
  conv => whnf
  repeat ((first | (apply guardI; · kernel_rfl) | (apply condT; · assumption) | (apply condF; · assumption) | (apply condNT; · assumption) | (apply condNF; · assumption)); conv => whnf)
  refine ⟨_, _, c0, ?_⟩
  conv => whnf
  repeat ((first | (apply guardI; · kernel_rfl) | (apply condT; · assumption) | (apply condF; · assumption) | (apply condNT; · assumption) | (apply condNF; · assumption)); conv => whnf)
  refine ⟨_, _, c1, ?_⟩
  conv => whnf
  repeat ((first | (apply guardI; · kernel_rfl) | (apply condT; · assumption) | (apply condF; · assumption) | (apply condNT; · assumption) | (apply condNF; · assumption)); conv => whnf)
  refine ⟨_, _, c, ?_⟩
  conv => whnf
  repeat ((first | (apply guardI; · kernel_rfl) | (apply condT; · assumption) | (apply condF; · assumption) | (apply condNT; · assumption) | (apply condNF; · assumption)); conv => whnf)
  exact ⟨by kernel_rfl, by kernel_rfl⟩

set_option maxHeartbeats 4000000 in
theorem e7k11 (e : Ev) (ho : EvOk e) (hr : EvR e) (hp : e.plainB = true) (hk : e.k = 11) (hb : (encEv e).length < 2000000000) : VEv Tryd.prog gl 7 [.d e.d] [] (.tuple [.d (bs (encEv e)), .d (int 0)]) [] := by
  have h11 := e11 e ho
  rw [hp] at h11
  clear hp
  have hB : BND = 70368744177664 := rfl
  have hS : SM = 4294967296 := rfl
  have h20 : ∀ b : Bs, b.length + (encPs e.ps).length + 100 < BND → VEv Tryd.prog gl 20 [.ptr 0 0, .d (psD e.ps)] (outS b) (.tuple []) (outS (b ++ encPs e.ps)) := fun b h => e20 e.ps ho.ps (pt_ok ho hr) b h
  have h19 : ∀ b : Bs, b.length + (encTb e.s e.r).length + 4294967396 < BND → VEv Tryd.prog gl 19 [.ptr 0 0, .d (Tb.d ⟨e.s, e.r⟩)] (outS b) (.ptr 0 0) (outS (b ++ encTb e.s e.r)) := fun b h => e19 e.s e.r ho.s (co_ok ho hr) ho.r ho.rr (va_ok ho hr) b h
  have h16k : ∀ b : Bs, b.length + 9 < BND → _ := e16 e.k hr.k
  have h16i : ∀ b : Bs, b.length + 9 < BND → _ := e16 e.id hr.id
  have h16n : ∀ b : Bs, b.length + 9 < BND → _ := e16 e.n hr.n
  have h16e : ∀ b : Bs, b.length + 9 < BND → _ := e16 e.err hr.err
  have h18 : ∀ b : Bs, b.length + 18 + e.pa.length < BND → _ := e18 ⟨e.pa, e.pi⟩ ho.pa hr.pi
  have h21 : ∀ b : Bs, b.length + 9 < BND → _ := e21 e.flag
  have h17 : ∀ b : Bs, b.length + 9 + e.text.length < BND → _ := e17 e.text ho.text
  have hpa : e.pa.length < SM := ho.pa
  have htx : e.text.length < SM := ho.text
  have h22 := fun b => e22 b
  obtain ⟨k, id, n, text, pa, pi, ps, s, r, err, flag⟩ := e
  simp only at hpa htx
  clear ho hr
  simp only at hk
  subst hk
  have he : (encEv ⟨11, id, n, text, pa, pi, ps, s, r, err, flag⟩) = encI 11 ++ (encB flag) := rfl
  rw [he] at hb ⊢
  have hb' := hb
  try simp only [List.length_append] at hb
  have hl0 := encI_len 11
  have c0 := h16k [] (by show 0 + 9 < 70368744177664; decide)
  have c1 := h21 (encI 11) (by (try simp only [List.length_append]); omega)
  have e : encI 11 ++ encB flag = encI 11 ++ (encB flag) := by simp
  have c := h22 (encI 11 ++ encB flag) (by rw [e]; omega)
  rw [← e]
  clear e hb hb' he h16k h16i h16n h16e h18 h21 h17 h19 h20 h22
  refine cp7.vev ?_
  conv => whnf
  repeat ((first | (apply guardI; · kernel_rfl) | (apply condT; · assumption) | (apply condF; · assumption) | (apply condNT; · assumption) | (apply condNF; · assumption)); conv => whnf)
  refine ⟨_, _, h11, ?_⟩
  conv => whnf
  repeat ((first | (apply guardI; · kernel_rfl) | (apply condT; · assumption) | (apply condF; · assumption) | (apply condNT; · assumption) | (apply condNF; · assumption)); conv => whnf)
  refine ⟨_, _, c0, ?_⟩
  conv => whnf
  repeat ((first | (apply guardI; · kernel_rfl) | (apply condT; · assumption) | (apply condF; · assumption) | (apply condNT; · assumption) | (apply condNF; · assumption)); conv => whnf)
  refine ⟨_, _, c1, ?_⟩
  conv => whnf
  repeat ((first | (apply guardI; · kernel_rfl) | (apply condT; · assumption) | (apply condF; · assumption) | (apply condNT; · assumption) | (apply condNF; · assumption)); conv => whnf)
  refine ⟨_, _, c, ?_⟩
  conv => whnf
  repeat ((first | (apply guardI; · kernel_rfl) | (apply condT; · assumption) | (apply condF; · assumption) | (apply condNT; · assumption) | (apply condNF; · assumption)); conv => whnf)
  exact ⟨by kernel_rfl, by kernel_rfl⟩

set_option maxHeartbeats 4000000 in
theorem e7k12 (e : Ev) (ho : EvOk e) (hr : EvR e) (hp : e.plainB = true) (hk : e.k = 12) (hb : (encEv e).length < 2000000000) : VEv Tryd.prog gl 7 [.d e.d] [] (.tuple [.d (bs (encEv e)), .d (int 0)]) [] := by
  have h11 := e11 e ho
  rw [hp] at h11
  clear hp
  have hB : BND = 70368744177664 := rfl
  have hS : SM = 4294967296 := rfl
  have h20 : ∀ b : Bs, b.length + (encPs e.ps).length + 100 < BND → VEv Tryd.prog gl 20 [.ptr 0 0, .d (psD e.ps)] (outS b) (.tuple []) (outS (b ++ encPs e.ps)) := fun b h => e20 e.ps ho.ps (pt_ok ho hr) b h
  have h19 : ∀ b : Bs, b.length + (encTb e.s e.r).length + 4294967396 < BND → VEv Tryd.prog gl 19 [.ptr 0 0, .d (Tb.d ⟨e.s, e.r⟩)] (outS b) (.ptr 0 0) (outS (b ++ encTb e.s e.r)) := fun b h => e19 e.s e.r ho.s (co_ok ho hr) ho.r ho.rr (va_ok ho hr) b h
  have h16k : ∀ b : Bs, b.length + 9 < BND → _ := e16 e.k hr.k
  have h16i : ∀ b : Bs, b.length + 9 < BND → _ := e16 e.id hr.id
  have h16n : ∀ b : Bs, b.length + 9 < BND → _ := e16 e.n hr.n
  have h16e : ∀ b : Bs, b.length + 9 < BND → _ := e16 e.err hr.err
  have h18 : ∀ b : Bs, b.length + 18 + e.pa.length < BND → _ := e18 ⟨e.pa, e.pi⟩ ho.pa hr.pi
  have h21 : ∀ b : Bs, b.length + 9 < BND → _ := e21 e.flag
  have h17 : ∀ b : Bs, b.length + 9 + e.text.length < BND → _ := e17 e.text ho.text
  have hpa : e.pa.length < SM := ho.pa
  have htx : e.text.length < SM := ho.text
  have h22 := fun b => e22 b
  obtain ⟨k, id, n, text, pa, pi, ps, s, r, err, flag⟩ := e
  simp only at hpa htx
  clear ho hr
  simp only at hk
  subst hk
  have he : (encEv ⟨12, id, n, text, pa, pi, ps, s, r, err, flag⟩) = encI 12 := by simp [encEv]
  rw [he] at hb ⊢
  have hb' := hb
  try simp only [List.length_append] at hb
  have hl0 := encI_len 12
  have c0 := h16k [] (by show 0 + 9 < 70368744177664; decide)
  have e : encI 12 = encI 12 := by simp
  have c := h22 (encI 12) (by rw [e]; omega)
  rw [← e]
  clear e hb hb' he h16k h16i h16n h16e h18 h21 h17 h19 h20 h22
  refine cp7.vev ?_
  conv => whnf
  repeat ((first | (apply guardI; · kernel_rfl) | (apply condT; · assumption) | (apply condF; · assumption) | (apply condNT; · assumption) | (apply condNF; · assumption)); conv => whnf)
  refine ⟨_, _, h11, ?_⟩
  conv => whnf
  repeat ((first | (apply guardI; · kernel_rfl) | (apply condT; · assumption) | (apply condF; · assumption) | (apply condNT; · assumption) | (apply condNF; · assumption)); conv => whnf)
  refine ⟨_, _, c0, ?_⟩
  conv => whnf
  repeat ((first | (apply guardI; · kernel_rfl) | (apply condT; · assumption) | (apply condF; · assumption) | (apply condNT; · assumption) | (apply condNF; · assumption)); conv => whnf)
  refine ⟨_, _, c, ?_⟩
  conv => whnf
  repeat ((first | (apply guardI; · kernel_rfl) | (apply condT; · assumption) | (apply condF; · assumption) | (apply condNT; · assumption) | (apply condNF; · assumption)); conv => whnf)
  exact ⟨by kernel_rfl, by kernel_rfl⟩

set_option maxHeartbeats 4000000 in
theorem e7k13 (e : Ev) (ho : EvOk e) (hr : EvR e) (hp : e.plainB = true) (hk : e.k = 13) (hb : (encEv e).length < 2000000000) : VEv Tryd.prog gl 7 [.d e.d] [] (.tuple [.d (bs (encEv e)), .d (int 0)]) [] := by
  have h11 := e11 e ho
  rw [hp] at h11
  clear hp
  have hB : BND = 70368744177664 := rfl
  have hS : SM = 4294967296 := rfl
  have h20 : ∀ b : Bs, b.length + (encPs e.ps).length + 100 < BND → VEv Tryd.prog gl 20 [.ptr 0 0, .d (psD e.ps)] (outS b) (.tuple []) (outS (b ++ encPs e.ps)) := fun b h => e20 e.ps ho.ps (pt_ok ho hr) b h
  have h19 : ∀ b : Bs, b.length + (encTb e.s e.r).length + 4294967396 < BND → VEv Tryd.prog gl 19 [.ptr 0 0, .d (Tb.d ⟨e.s, e.r⟩)] (outS b) (.ptr 0 0) (outS (b ++ encTb e.s e.r)) := fun b h => e19 e.s e.r ho.s (co_ok ho hr) ho.r ho.rr (va_ok ho hr) b h
  have h16k : ∀ b : Bs, b.length + 9 < BND → _ := e16 e.k hr.k
  have h16i : ∀ b : Bs, b.length + 9 < BND → _ := e16 e.id hr.id
  have h16n : ∀ b : Bs, b.length + 9 < BND → _ := e16 e.n hr.n
  have h16e : ∀ b : Bs, b.length + 9 < BND → _ := e16 e.err hr.err
  have h18 : ∀ b : Bs, b.length + 18 + e.pa.length < BND → _ := e18 ⟨e.pa, e.pi⟩ ho.pa hr.pi
  have h21 : ∀ b : Bs, b.length + 9 < BND → _ := e21 e.flag
  have h17 : ∀ b : Bs, b.length + 9 + e.text.length < BND → _ := e17 e.text ho.text
  have hpa : e.pa.length < SM := ho.pa
  have htx : e.text.length < SM := ho.text
  have h22 := fun b => e22 b
  obtain ⟨k, id, n, text, pa, pi, ps, s, r, err, flag⟩ := e
  simp only at hpa htx
  clear ho hr
  simp only at hk
  subst hk
  have he : (encEv ⟨13, id, n, text, pa, pi, ps, s, r, err, flag⟩) = encI 13 := by simp [encEv]
  rw [he] at hb ⊢
  have hb' := hb
  try simp only [List.length_append] at hb
  have hl0 := encI_len 13
  have c0 := h16k [] (by show 0 + 9 < 70368744177664; decide)
  have e : encI 13 = encI 13 := by simp
  have c := h22 (encI 13) (by rw [e]; omega)
  rw [← e]
  clear e hb hb' he h16k h16i h16n h16e h18 h21 h17 h19 h20 h22
  refine cp7.vev ?_
  conv => whnf
  repeat ((first | (apply guardI; · kernel_rfl) | (apply condT; · assumption) | (apply condF; · assumption) | (apply condNT; · assumption) | (apply condNF; · assumption)); conv => whnf)
  refine ⟨_, _, h11, ?_⟩
  conv => whnf
  repeat ((first | (apply guardI; · kernel_rfl) | (apply condT; · assumption) | (apply condF; · assumption) | (apply condNT; · assumption) | (apply condNF; · assumption)); conv => whnf)
  refine ⟨_, _, c0, ?_⟩
  conv => whnf
  repeat ((first | (apply guardI; · kernel_rfl) | (apply condT; · assumption) | (apply condF; · assumption) | (apply condNT; · assumption) | (apply condNF; · assumption)); conv => whnf)
  refine ⟨_, _, c, ?_⟩
  conv => whnf
  repeat ((first | (apply guardI; · kernel_rfl) | (apply condT; · assumption) | (apply condF; · assumption) | (apply condNT; · assumption) | (apply condNF; · assumption)); conv => whnf)
  exact ⟨by kernel_rfl, by kernel_rfl⟩


theorem e7 (e : Ev) (ho : EvOk e) (hr : EvR e) (hp : e.plainB = true) (hk : 1 ≤ e.k ∧ e.k ≤ 13) (hb : (encEv e).length < 2000000000) : VEv Tryd.prog gl 7 [.d e.d] [] (.tuple [.d (bs (encEv e)), .d (int 0)]) [] := by
  have hkk : e.k = 1 ∨ e.k = 2 ∨ e.k = 3 ∨ e.k = 4 ∨ e.k = 5 ∨ e.k = 6 ∨ e.k = 7 ∨ e.k = 8 ∨ e.k = 9 ∨ e.k = 10 ∨ e.k = 11 ∨ e.k = 12 ∨ e.k = 13 := by omega
  rcases hkk with h | h | h | h | h | h | h | h | h | h | h | h | h
  · exact e7k1 e ho hr hp h hb
  · exact e7k2 e ho hr hp h hb
  · exact e7k3 e ho hr hp h hb
  · exact e7k4 e ho hr hp h hb
  · exact e7k5 e ho hr hp h hb
  · exact e7k6 e ho hr hp h hb
  · exact e7k7 e ho hr hp h hb
  · exact e7k8 e ho hr hp h hb
  · exact e7k9 e ho hr hp h hb
  · exact e7k10 e ho hr hp h hb
  · exact e7k11 e ho hr hp h hb
  · exact e7k12 e ho hr hp h hb
  · exact e7k13 e ho hr hp h hb

end Go.Proofs.YthalcnhgnadmlaaDoor
