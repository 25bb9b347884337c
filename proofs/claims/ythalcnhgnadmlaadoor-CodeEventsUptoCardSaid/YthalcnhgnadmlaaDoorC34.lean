/- What comes in: events and bytes. Conditions: none. -/
import Derived.Test.YthalcnhgnadmlaaDoorC33
set_option maxRecDepth 100000
namespace Go.Proofs.YthalcnhgnadmlaaDoor
open Go Go.Vm

theorem okE_one {N : Nat} {t : CT} {α : Type} {f : α → D} {p : α → Prop} (h : ∀ x, OkC N t x → ∃ a, p a ∧ x = f a) : ∀ {l : List D}, OkE N false [t] l → ∃ qs : List α, l = qs.map f ∧ ∀ a, a ∈ qs → p a
  | [], _ => ⟨[], rfl, by simp⟩
  | x :: l, hl => by
    cases hl with
    | one _ _ _ h1 h2 =>
      obtain ⟨a, ha, rfl⟩ := h x h1
      obtain ⟨qs, rfl, hq⟩ := okE_one h h2
      refine ⟨a :: qs, rfl, fun b hb => ?_⟩
      rcases List.mem_cons.1 hb with rfl | hb
      · exact ha
      · exact hq b hb
theorem okE_agg {N : Nat} {ts : List CT} {α : Type} {f : α → D} {p : α → Prop} (h : ∀ cs, OkL N ts cs → ∃ a, p a ∧ D.agg cs = f a) : ∀ {l : List D}, OkE N true ts l → ∃ qs : List α, l = qs.map f ∧ ∀ a, a ∈ qs → p a
  | [], _ => ⟨[], rfl, by simp⟩
  | x :: l, hl => by
    cases hl with
    | agg _ cs _ h1 h2 =>
      obtain ⟨a, ha, he⟩ := h cs h1
      obtain ⟨qs, rfl, hq⟩ := okE_agg h h2
      refine ⟨a :: qs, by rw [he]; rfl, fun b hb => ?_⟩
      rcases List.mem_cons.1 hb with rfl | hb
      · exact ha
      · exact hq b hb

theorem ok_byte {N : Nat} (x : D) (h : OkC N (.int .u8) x) : ∃ c : UInt8, True ∧ x = byteD c := by
  cases h with
  | int _ n h1 h2 =>
    have h1 : (0 : Int) ≤ n := h1
    have h2 : n ≤ 255 := h2
    refine ⟨UInt8.ofNat n.toNat, trivial, ?_⟩
    unfold byteD
    have : (UInt8.ofNat n.toNat).toNat = n.toNat := by simp; omega
    rw [this]
    congr 1
    omega
theorem ok_int {N : Nat} {x : D} (h : OkC N (.int .i64) x) : ∃ n, I64 n ∧ x = int n := by
  cases h with
  | int _ n h1 h2 =>
    have h1 : (-9223372036854775808 : Int) ≤ n := h1
    have h2 : n ≤ 9223372036854775807 := h2
    exact ⟨n, by unfold I64; omega, rfl⟩
theorem ok_str {N : Nat} {x : D} (h : OkC N .str x) : ∃ t : Bs, t.length ≤ N ∧ x = .str t := by
  cases h with
  | str t h => exact ⟨t, h, rfl⟩
theorem ok_bool {N : Nat} {x : D} (h : OkC N .bool x) : ∃ b : Bool, x = .bool b := by
  cases h with
  | bool b => exact ⟨b, rfl⟩

theorem args4 {N : Nat} {qs : List Val} (h : OkA N tyBytes qs) : ∃ b : Bs, b.length ≤ N ∧ qs = [.d (bs b)] := by
  unfold tyBytes at h
  cases h with
  | cons _ _ xs _ _ h1 h2 =>
    cases h2
    cases h1 with
    | cons _ x _ _ h3 h4 =>
      cases h4
      cases h3 with
      | list _ _ l h5 h6 =>
        obtain ⟨b, rfl, _⟩ := okE_one (f := byteD) (p := fun _ => True) (fun x hx => ok_byte x hx) h6
        exact ⟨b, by simpa using h5, rfl⟩

theorem reads_said : Rows.CodeReadsUptoCardSaid := card4 fun qs h => by
  obtain ⟨b, hb, rfl⟩ := args4 h
  exact e4 b (Nat.lt_of_le_of_lt hb (by decide))

def PtN (N : Nat) (p : Pt) : Prop := p.a.length ≤ N ∧ I64 p.i
def CoN (N : Nat) (c : Co) : Prop := c.name.length ≤ N ∧ I64 c.ty
def VaN (N : Nat) (v : Va) : Prop := I64 v.k ∧ I64 v.n ∧ v.t.length ≤ N
def RowN (N : Nat) (q : List Va) : Prop := q.length ≤ N ∧ ∀ v, v ∈ q → VaN N v
theorem ok_pt {N : Nat} (cs : List D) (h : OkL N ctPart cs) : ∃ p : Pt, PtN N p ∧ D.agg cs = p.d := by
  unfold ctPart at h
  cases h with
  | cons _ x _ _ h1 h =>
  cases h with
  | cons _ y _ _ h2 h =>
  cases h
  obtain ⟨t, ht, rfl⟩ := ok_str h1
  obtain ⟨n, hn, rfl⟩ := ok_int h2
  exact ⟨⟨t, n⟩, ⟨ht, hn⟩, rfl⟩
theorem ok_co {N : Nat} (cs : List D) (h : OkL N ctPart cs) : ∃ c : Co, CoN N c ∧ D.agg cs = c.d := by
  obtain ⟨⟨t, n⟩, h1, h2⟩ := ok_pt cs h
  exact ⟨⟨t, n⟩, h1, h2⟩
theorem ok_va {N : Nat} (cs : List D) (h : OkL N ctVal cs) : ∃ v : Va, VaN N v ∧ D.agg cs = v.d := by
  unfold ctVal at h
  cases h with
  | cons _ x _ _ h1 h =>
  cases h with
  | cons _ y _ _ h2 h =>
  cases h with
  | cons _ z _ _ h3 h =>
  cases h
  obtain ⟨k, hk, rfl⟩ := ok_int h1
  obtain ⟨n, hn, rfl⟩ := ok_int h2
  obtain ⟨t, ht, rfl⟩ := ok_str h3
  exact ⟨⟨k, n, t⟩, ⟨hk, hn, ht⟩, rfl⟩
theorem ok_row {N : Nat} (x : D) (h : OkC N (.list true ctVal) x) : ∃ q : List Va, RowN N q ∧ x = rD q := by
  cases h with
  | list _ _ l h5 h6 =>
    obtain ⟨q, rfl, hq⟩ := okE_agg (f := Va.d) (p := VaN N) ok_va h6
    exact ⟨q, ⟨by simpa using h5, hq⟩, rfl⟩

theorem args3 {N : Nat} (hN : N < SM) {qs : List Val} (h : OkA N tyEvent qs) : ∃ e : Ev, EvOk e ∧ EvR e ∧ (∀ c, c ∈ e.s → c.name.length ≤ N) ∧ (∀ q, q ∈ e.r → ∀ v, v ∈ q → v.t.length ≤ N) ∧ qs = [.d e.d] := by
  unfold tyEvent at h
  cases h with
  | cons _ _ xs _ _ h1 h2 =>
    cases h2
    unfold ctEvent at h1
    cases h1 with
    | cons _ x1 _ _ k1 h =>
    cases h with
    | cons _ x2 _ _ k2 h =>
    cases h with
    | cons _ x3 _ _ k3 h =>
    cases h with
    | cons _ x4 _ _ k4 h =>
    cases h with
    | cons _ x5 _ _ k5 h =>
    cases h with
    | cons _ x6 _ _ k6 h =>
    cases h with
    | cons _ x7 _ _ k7 h =>
    cases h with
    | cons _ x8 _ _ k8 h =>
    cases h with
    | cons _ x9 _ _ k9 h =>
    cases h with
    | cons _ x10 _ _ k10 h =>
    cases h with
    | cons _ x11 _ _ k11 h =>
    cases h
    obtain ⟨k, r1, rfl⟩ := ok_int k1
    obtain ⟨id, r2, rfl⟩ := ok_int k2
    obtain ⟨n, r3, rfl⟩ := ok_int k3
    obtain ⟨text, r4, rfl⟩ := ok_str k4
    obtain ⟨pa, r5, rfl⟩ := ok_str k5
    obtain ⟨pi, r6, rfl⟩ := ok_int k6
    obtain ⟨err, r10, rfl⟩ := ok_int k10
    obtain ⟨flag, rfl⟩ := ok_bool k11
    cases k7 with
    | list _ _ l7 a7 b7 =>
    cases k8 with
    | list _ _ l8 a8 b8 =>
    cases k9 with
    | list _ _ l9 a9 b9 =>
    obtain ⟨ps, rfl, hps⟩ := okE_agg (f := Pt.d) (p := PtN N) ok_pt b7
    obtain ⟨s, rfl, hs⟩ := okE_agg (f := Co.d) (p := CoN N) ok_co b8
    obtain ⟨r, rfl, hr⟩ := okE_one (f := rD) (p := RowN N) ok_row b9
    rw [List.length_map] at a7 a8 a9
    have lt : ∀ {n : Nat}, n ≤ N → n < SM := fun h => Nat.lt_of_le_of_lt h hN
    exact ⟨⟨k, id, n, text, pa, pi, ps, s, r, err, flag⟩,
      ⟨lt r4, lt r5, lt a7, fun p hp => lt (hps p hp).1, lt a8, fun c hc => lt (hs c hc).1, lt a9, fun q hq => lt (hr q hq).1, fun q hq v hv => lt ((hr q hq).2 v hv).2.2⟩,
      ⟨r1, r2, r3, r6, r10, fun p hp => (hps p hp).2, fun c hc => (hs c hc).2, fun q hq v hv => ⟨((hr q hq).2 v hv).1, ((hr q hq).2 v hv).2.1⟩⟩,
      fun c hc => (hs c hc).1, fun q hq v hv => ((hr q hq).2 v hv).2.2, rfl⟩

end Go.Proofs.YthalcnhgnadmlaaDoor
