/- Part of a small abstract machine over the kit. Conditions: none. -/
import Derived.Shelf.Strings.BuilderF
import Derived.Test.YtaobjdbdpdbekaaGreatDoorV4
import GoSem.ClaimChange
import Derived.DataReads
import Derived.ChangeArms
import Derived.ChangeSame
import Derived.RowKit
import Derived.Carry
import Derived.ChangeOld
import Derived.ChangeShapes
import Derived.Lib.LaidTab
import Derived.Deep.DeepLaidRun
import Derived.SevenTiedAt
section
/- What writing to a builder of the library's, and reading it, does to the memory, block by block. Conditions: none. -/
set_option linter.unusedSimpArgs false
namespace Go.Vm
open Go.Shelf Go.RowKit Go.Proofs

section
variable {P : Program} {w : World}

theorem app_str (t u ty e : TypeId) (i : TypeInfo) (ht : P.underlying t = some (.slice e)) (hu : P.underlying u = some .string) (hi : P.info? e = some i) (hz : i.zero = some (.int .u8 0))
    (hsize : i.size = 1) (hby : i.bytes = 1) (v : Value) (n : Nat) (xs : List Value) (hown : w.ownsRowF 0 e 1 v n xs) (s : ByteArray) (h63 : n + s.size ≤ maxLen) (hbytes : n + s.size ≤ 140737488355328) :
    ∃ v' w', (Builtin.append_ #[t, u] ty #[v, .string s]).run P w = .ok v' w' ∧ w'.ownsRowF 0 e 1 v' (n + s.size) (xs ++ Lib.strCells s) ∧ w.grownBy w' v.ownBlock ∧ (∀ g, v'.ownBlock = some g → v.ownBlock = some g ∨ w.heap.size ≤ g) ∧
      ∀ g cur fz, v.ownBlock = some g → w.heap[g]? = some (.cells cur e fz) → ∃ cur' fz', w'.heap[g]? = some (.cells cur' e fz') ∧ cur'.size = cur.size := by
  obtain ⟨v', w', h1, h2, h3, -⟩ := Lib.run_append_own_stringF w 0 t u ty e i ht hu hi hz hsize hby v n xs hown s h63 hbytes (Nat.zero_le _)
  refine ⟨v', w', h1, h2, h3, ?_⟩
  rcases hown.2 with ⟨rfl, rfl⟩ | ⟨g, cap, cur, fz, rfl, _, hg, hfz, hnc, hcm, hcs, htake⟩
  · obtain ⟨v2, w2, k1, k2, -, -⟩ := Lib.run_append_own_stringF w w.heap.size t u ty e i ht hu hi hz hsize hby (.slice none 0 0) 0 xs ⟨hown.1, .inl ⟨rfl, rfl⟩⟩ s h63 hbytes (Nat.le_refl _)
    rw [h1] at k1
    injection k1 with k1 k1'
    subst k1; subst k1'
    refine ⟨fun k hk => ?_, fun g cur fz hv _ => by simp [Value.ownBlock] at hv⟩
    rcases k2.2 with ⟨rfl, _⟩ | ⟨g', _, _, _, rfl, hb, _⟩
    · simp [Value.ownBlock] at hk
    · simp only [Value.ownBlock, Option.some.injEq] at hk
      exact .inr (hk ▸ hb)
  · by_cases hroom : n + s.size ≤ cap
    · have hr := Lib.run_append_room_stringF (P := P) w t u ty e i ht hu hi hsize g n cap cur fz hg (by simpa using hfz) s hroom (by omega)
      rw [h1] at hr
      injection hr with hr hr'
      subst hr
      refine ⟨fun k hk => .inl hk, fun g2 cur2 fz2 hv hg2 => ?_⟩
      simp only [Value.ownBlock, Option.some.injEq] at hv
      subst hv
      rw [hg] at hg2
      simp only [Option.some.injEq, Obj.cells.injEq] at hg2
      obtain ⟨rfl, _, rfl⟩ := hg2
      subst hr'
      refine ⟨_, _, setRow_heap w g cur _ e _ hg, ?_⟩
      have : n ≤ cur.size := by omega
      simp only [List.size_toArray, List.length_append, List.length_take, List.length_drop, Array.length_toList, Lib.strCells_length]
      omega
    · have holds : ∀ j u, xs[j]? = some u → w.cell? ((⟨g, 0, none⟩ : Addr).add j) = some u := hown.cells (g := g) rfl
      have hr := Lib.run_append_grow_string (P := P) w t u ty e i (.int .u8 0) ht hu hi hz ⟨g, 0, none⟩ n cap xs (by rw [hsize]; simpa using hown.1) holds s (by omega) (by unfold maxLen at h63; omega) (by rw [hby]; exact growslice_fits (by omega) (by omega))
      rw [h1] at hr
      injection hr with hr hr'
      subst hr
      refine ⟨fun k hk => ?_, fun g2 cur2 fz2 hv hg2 => ?_⟩
      · simp only [Value.ownBlock, Option.some.injEq] at hk
        exact .inr (Nat.le_of_eq hk)
      · subst hr'
        have hlt : g2 < w.drew.heap.size := (Array.getElem?_eq_some_iff.1 hg2).1
        exact ⟨_, _, (Lib.alloc_old w.drew _ g2 hlt).trans hg2, rfl⟩

/-- The row stands, and is as long. -/
def RowKept (v : Value) (e : TypeId) (w w' : World) : Prop := ∀ g cur fz, v.ownBlock = some g → w.heap[g]? = some (.cells cur e fz) → ∃ cur' fz', w'.heap[g]? = some (.cells cur' e fz') ∧ cur'.size = cur.size

theorem wpList_app_str {ops : Array Oper} {rest : List Oper} {o : Oper} {a : Act} {Q : Exit → Act → World → Prop} (hgd : o.guard = none) (sl x : Operand) (t u : TypeId)
    (ho : o.op = .call { callee := .builtin .append, args := #[sl, x], argTypes := #[t, u] })
    (e : TypeId) (i : TypeInfo) (ht : P.underlying t = some (.slice e)) (hu : P.underlying u = some .string) (hi : P.info? e = some i) (hz : i.zero = some (.int .u8 0)) (hsize : i.size = 1) (hby : i.bytes = 1)
    (v : Value) (n : Nat) (xs : List Value) (hs : a.eval sl = v) (hown : w.ownsRowF 0 e 1 v n xs) (s : ByteArray) (hx : a.eval x = .string s) (h63 : n + s.size ≤ maxLen) (hbytes : n + s.size ≤ 140737488355328)
    (h : ∀ v' w', w'.ownsRowF 0 e 1 v' (n + s.size) (xs ++ Lib.strCells s) → w.grownBy w' v.ownBlock → (∀ g, v'.ownBlock = some g → v.ownBlock = some g ∨ w.heap.size ≤ g) → RowKept v e w w' →
      wpList P ops Q rest (a.put o.dst v') w') : wpList P ops Q (o :: rest) a w := by
  refine wpList_plain hgd fun K hK => ?_
  obtain ⟨v', w', hr, h2, h3, h4, h5⟩ := app_str (P := P) (w := w) t u o.type e i ht hu hi hz hsize hby v n xs hown s h63 hbytes
  unfold Oper.wp execOp
  simp only [ho, resolve, invoke, builtin, Sem.run_bind, Sem.run_pure, Result.andThen_ok, List.map_toArray, List.map_cons, List.map_nil, hs, hx, hr]
  exact hK _ _ (h v' w' h2 h3 h4 h5)

end

/-- A builder as it lies: its block, its row. -/
def BldAt (t e b : Nat) (p v : Value) (bs : List Value) (w : World) : Prop :=
  w.heap[b]? = some (.cells #[p, v] t (0, 0)) ∧ (p = .pointer none ∨ p = .pointer (some ⟨b, 0, none⟩)) ∧ w.ownsRowF 0 e 1 v bs.length bs ∧ v.ownBlock ≠ some b

/-- Only the builder's block, its row, and new ones are others. -/
structure BldKept (b : Nat) (v : Value) (w w' : World) : Prop where
  os : w'.os = w.os
  out : w'.output = w.output
  size : w.heap.size ≤ w'.heap.size
  block : ∀ k, k < w.heap.size → k ≠ b → v.ownBlock ≠ some k → w'.heap[k]? = w.heap[k]?

section
variable {P : Program} {ρ : Ren} {w : World}

theorem copyCheck_b (L : Lays.n240 P ρ) (X : Builder.X72 P ρ) {b : Nat} {p v : Value} {bs : List Value} (h : BldAt (ρ.t 72) (ρ.t 5) b p v bs w) :
    Calls P (ρ.f 240) #[.pointer (some ⟨b, 0, none⟩)] w fun e w' => e = .returned (.tuple #[]) ∧ BldAt (ρ.t 72) (ρ.t 5) b (.pointer (some ⟨b, 0, none⟩)) v bs w' ∧ w'.os = w.os ∧ w'.output = w.output ∧ w'.heap.size = w.heap.size ∧ ∀ k, k ≠ b → w'.heap[k]? = w.heap[k]? := by
  obtain ⟨h1, h2, h3, h4⟩ := h
  have hF : Lib.BuilderAtF (ρ.t 72) (ρ.t 5) 0 b p bs w := ⟨Nat.zero_le _, v, h1, h3, h4⟩
  rcases h2 with rfl | rfl
  · refine (Any.Builder_copyCheck_fresh L X b w hF.cell0 hF.shape hF.frozen0).mono ?_
    rintro e w' ⟨rfl, rfl⟩
    obtain ⟨_, v', g1, g2, g3⟩ := hF.used (.pointer (some ⟨b, 0, none⟩))
    have hv : v' = v := by
      have : (w.setCell ⟨b, 0, none⟩ (.pointer (some ⟨b, 0, none⟩))).heap[b]? = some (.cells #[.pointer (some ⟨b, 0, none⟩), v] (ρ.t 72) (0, 0)) := by simp [World.setCell, Array.getElem?_modify, h1]
      rw [this] at g1
      simp at g1
      exact g1.symm
    subst hv
    exact ⟨rfl, ⟨g1, .inr rfl, g2, g3⟩, rfl, rfl, by simp [World.setCell], fun k hk => Below.heap_setCell _ _ _ _ (fun e => hk (by simp [e]))⟩
  · refine (Any.Builder_copyCheck_used L X b w hF.cell0).mono ?_
    rintro e w' ⟨rfl, rfl⟩
    exact ⟨rfl, ⟨h1, .inr rfl, h3, h4⟩, rfl, rfl, rfl, fun _ _ => rfl⟩

set_option maxHeartbeats 2000000 in
set_option maxRecDepth 100000 in
theorem write_b (L : Lays.n166 P ρ) (X : Builder.Extra P ρ) {b : Nat} {p v : Value} {bs : List Value} (s : ByteArray) (h : BldAt (ρ.t 72) (ρ.t 5) b p v bs w) (hlen : bs.length + s.size ≤ 140737488355328) :
    Calls P (ρ.f 166) #[.pointer (some ⟨b, 0, none⟩), .string s] w fun e w' => e = .returned (.tuple #[.int .i64 s.size, .nilIface]) ∧ BldKept b v w w' ∧
      ∃ v', BldAt (ρ.t 72) (ρ.t 5) b (.pointer (some ⟨b, 0, none⟩)) v' (bs ++ Lib.strCells s) w' ∧ (∀ g, v'.ownBlock = some g → v.ownBlock = some g ∨ w.heap.size ≤ g) ∧
      RowKept v (ρ.t 5) w w' := by
  obtain ⟨i0, hi, hz0, hz1, hz2⟩ := info_parts X.infoByte
  have mixed := L.mixed
  have t72 := L.t72; have a72 := L.a72; have z72 := L.z72; have v72 := L.v72; have u72 := run_underlying L.t72
  have t70 := L.t70; have a70 := L.a70; have z70 := L.z70; have v70 := L.v70; have u70 := run_underlying L.t70
  have t37 := L.t37; have a37 := L.a37; have z37 := L.z37; have v37 := L.v37; have u37 := run_underlying L.t37
  have t3 := L.t3; have a3 := L.a3; have z3 := L.z3; have v3 := L.v3; have u3 := run_underlying L.t3
  have t9 := L.t9; have a9 := L.a9; have z9 := L.z9; have v9 := L.v9; have u9 := run_underlying L.t9
  have t4 := L.t4; have a4 := L.a4; have z4 := L.z4; have v4 := L.v4; have u4 := run_underlying L.t4
  have t164 := L.t164; have a164 := L.a164; have z164 := L.z164; have v164 := L.v164; have u164 := run_underlying L.t164
  have t5 := X.t5; have a5 := X.a5; have z5 := X.z5; have v5 := X.v5; have u5 := run_underlying X.t5
  have e240 : ∀ args w, (callFunc (ρ.f 240) args).run P w = .ok (.enter (ρ.f 240) args) w := enters_of L.f240 (by kernel_rfl) rfl
  go_enter L.f166, Body.n166_ntmps ρ
  go_wp2_with (go_at_fn (ρ.f 240); refine (copyCheck_b { L with } X.toX72 h).mono ?_)
  rintro e w1 ⟨rfl, ⟨hbk, _, hown, hne⟩, hk1os, hk1out, hsz, hk1⟩
  have c0 : w1.cell? ⟨b, 0, none⟩ = some (.pointer (some ⟨b, 0, none⟩)) := by rw [Lib.cell_of_heap hbk]; rfl
  have c1 : w1.cell? ⟨b, 1, none⟩ = some v := by rw [Lib.cell_of_heap hbk]; rfl
  go_wp2_with (at_builtin; refine wpList_app_str rfl _ _ (ρ.t 37) (ρ.t 9) rfl (ρ.t 5) i0 L.t37 L.t9 hi hz0 hz1 hz2 _ _ _ rfl hown s rfl ?c3 ?c4 ?_)
  case c3 => unfold maxLen; omega
  case c4 => omega
  intro v' w2 hown' hgrow hnew hrow
  have hlt : b < w1.heap.size := by
    rcases Nat.lt_or_ge b w1.heap.size with h' | h'
    · exact h'
    · simp [Array.getElem?_eq_none h'] at hbk
  have hb2 : w2.heap[b]? = some (.cells #[.pointer (some ⟨b, 0, none⟩), v] (ρ.t 72) (0, 0)) := by
    rw [hgrow.block b hlt (fun e => hne e.symm)]
    exact hbk
  have d0 : w2.cell? ⟨b, 0, none⟩ = some (.pointer (some ⟨b, 0, none⟩)) := by rw [Lib.cell_of_heap hb2]; rfl
  have d1 : w2.cell? ⟨b, 1, none⟩ = some v := by rw [Lib.cell_of_heap hb2]; rfl
  have f1 : w2.frozen? ⟨b, 1, none⟩ = false := Lib.frozen_of_heap hb2 1
  obtain ⟨ao, n', cap, rfl⟩ : ∃ ao n' cap, v' = .slice ao n' cap := by
    rcases hown'.2 with ⟨hv, _⟩ | ⟨g, cap, cur, fz, hv, _⟩
    · exact ⟨_, _, _, hv⟩
    · exact ⟨_, _, _, hv⟩
  have hP := Lib.BuilderAtF.put (T := (ρ.t 72)) (e := (ρ.t 5)) (Nat.zero_le b) hb2 (bs' := bs ++ Lib.strCells s) (by simpa [Lib.strCells_length] using hown') X.neB5
  go_wp2
  go_ret2
  refine ⟨rfl, ⟨?_, ?_, ?_, ?_⟩, .slice ao n' cap, ?_, ?_, ?_⟩
  · show w2.os = w.os
    rw [hgrow.os, hk1os]
  · show w2.output = w.output
    rw [hgrow.output, hk1out]
  · have := hgrow.size; simp [World.setCell]; omega
  · intro k hk hkb hkv
    have hk' : k < w1.heap.size := by omega
    rw [Below.heap_setCell _ _ _ _ (fun e => hkb (by simpa using e)), hgrow.block k hk' (fun e => hkv e.symm), hk1 k hkb]
  · obtain ⟨_, v2, q1, q2, q3⟩ := hP
    have hv : v2 = .slice ao n' cap := by
      have : (w2.setCell ⟨b, 1, none⟩ (.slice ao n' cap)).heap[b]? = some (.cells #[.pointer (some ⟨b, 0, none⟩), .slice ao n' cap] (ρ.t 72) (0, 0)) := by simp [World.setCell, Array.getElem?_modify, hb2]
      rw [this] at q1
      simp at q1
      exact q1.symm
    subst hv
    exact ⟨q1, .inr rfl, q2, q3⟩
  · intro g hg
    rcases hnew g hg with h | h
    · exact .inl h
    · exact .inr (by omega)
  · intro g cur fz hv hg
    have hgb : g ≠ b := fun e => hne (by rw [hv, e])
    obtain ⟨cur', fz', q1, q2⟩ := hrow g cur fz hv ((hk1 g hgb).trans hg)
    exact ⟨cur', fz', by rw [Below.heap_setCell _ _ _ _ (fun e => hgb (by simpa using e))]; exact q1, q2⟩

/-- What reading it comes to: nothing but draws, one new block without cells, or its row's head frozen. -/
def ReadOf (v : Value) (n : Nat) (w w' : World) : Prop :=
  w' = w.drew ∨ (∃ a e, w' = w.drew.alloc (.view a e)) ∨ ∃ g c, v = .slice (some ⟨g, 0, none⟩) n c ∧ n ≠ 0 ∧ w' = w.drew.freeze ⟨g, 0, none⟩ n

set_option maxHeartbeats 1000000 in
set_option maxRecDepth 100000 in
theorem string_full (L : Lays.n169 P ρ) (X : Builder.Extra P ρ) {b : Nat} {p v : Value} {l : List UInt8} (h : BldAt (ρ.t 72) (ρ.t 5) b p v (Lib.byteCells l) w) (h0 : l ≠ []) :
    Calls P (ρ.f 169) #[.pointer (some ⟨b, 0, none⟩)] w fun e w' => e = .returned (.string ⟨l.toArray⟩) ∧ ReadOf v l.length w w' := by
  obtain ⟨hbk, _, hown, hne⟩ := h
  have hl0 : l.length ≠ 0 := by simpa using h0
  rw [Lib.byteCells_length] at hown
  obtain ⟨g, cap, cur, fz, rfl, hg, hfz, hnc, hcm, hcs, htake⟩ : ∃ g cap cur fz, v = .slice (some ⟨g, 0, none⟩) l.length cap ∧ w.heap[g]? = some (.cells cur (ρ.t 5) fz) ∧ fz.2 ≤ l.length * 1 ∧ l.length ≤ cap ∧ cap ≤ maxLen ∧ cur.size = cap * 1 ∧ cur.toList.take (l.length * 1) = Lib.byteCells l := by
    rcases hown.2 with ⟨_, hz⟩ | ⟨g, cap, cur, fz, hv, _, r⟩
    · exact absurd hz hl0
    · exact ⟨g, cap, cur, fz, hv, r⟩
  have c1 : w.drew.cell? ⟨b, 1, none⟩ = some (.slice (some ⟨g, 0, none⟩) l.length cap) := by
    have : w.drew.heap[b]? = some (.cells #[p, .slice (some ⟨g, 0, none⟩) l.length cap] (ρ.t 72) (0, 0)) := hbk
    rw [Lib.cell_of_heap this]; rfl
  have hSD : (Builtin.unsafeSliceData_ #[(ρ.t 37)] (ρ.t 127) #[.slice (some ⟨g, 0, none⟩) l.length cap]).run P w.drew = .ok (.pointer (some ⟨g, 0, none⟩)) w.drew :=
    Lib.run_unsafeSliceData_row _ _ _ _ _ _ (by omega)
  have hUS : (Builtin.unsafeString_ #[(ρ.t 127), (ρ.t 3)] (ρ.t 9) #[.pointer (some ⟨g, 0, none⟩), .int .i64 l.length]).run P w.drew = .ok (.string ⟨l.toArray⟩) (w.drew.freeze ⟨g, 0, none⟩ l.length) := by
    refine Lib.run_unsafeString_row w.drew (ρ.t 127) (ρ.t 3) (ρ.t 9) (ρ.t 5) L.t127 X.cellsByte g cur.size (by have hg' : w.drew.heap[g]? = some (.cells cur (ρ.t 5) fz) := hg; simp [World.shape?, hg']) l h0 (by omega) (by unfold maxLen at hcm; omega) ?_
    intro j x hx
    have := hown.cells (g := g) rfl j (.int .u8 x.toNat) (by simp [Lib.byteCells, hx])
    exact this
  have mixed := L.mixed
  have t72 := L.t72; have a72 := L.a72; have z72 := L.z72; have v72 := L.v72; have u72 := run_underlying L.t72
  have t70 := L.t70; have a70 := L.a70; have z70 := L.z70; have v70 := L.v70; have u70 := run_underlying L.t70
  have t37 := L.t37; have a37 := L.a37; have z37 := L.z37; have v37 := L.v37; have u37 := run_underlying L.t37
  have t127 := L.t127; have a127 := L.a127; have z127 := L.z127; have v127 := L.v127; have u127 := run_underlying L.t127
  have t3 := L.t3; have a3 := L.a3; have z3 := L.z3; have v3 := L.v3; have u3 := run_underlying L.t3
  have t9 := L.t9; have a9 := L.a9; have z9 := L.z9; have v9 := L.v9; have u9 := run_underlying L.t9
  have t5 := X.t5; have a5 := X.a5; have z5 := X.z5; have v5 := X.v5; have u5 := run_underlying X.t5
  go_enter L.f169, Body.n169_ntmps ρ
  go_wp2
  go_region_o
  all_goals (go_wp2; go_ret; exact ⟨rfl, .inr (.inr ⟨g, cap, rfl, hl0, rfl⟩)⟩)

set_option maxHeartbeats 2000000 in
set_option maxRecDepth 100000 in
theorem string_nil (L : Lays.n169 P ρ) (X : Builder.Extra P ρ) {b : Nat} {p : Value} (hbk : w.heap[b]? = some (.cells #[p, .slice none 0 0] (ρ.t 72) (0, 0))) :
    Calls P (ρ.f 169) #[.pointer (some ⟨b, 0, none⟩)] w fun e w' => e = .returned (.string ⟨#[]⟩) ∧ w' = w.drew := by
  have hUS := Any.unsafeString_none L X
  have c1 : w.drew.cell? ⟨b, 1, none⟩ = some (.slice none 0 0) := by
    have : w.drew.heap[b]? = some (.cells #[p, .slice none 0 0] (ρ.t 72) (0, 0)) := hbk
    rw [Lib.cell_of_heap this]; rfl
  have hSD : (Builtin.unsafeSliceData_ #[(ρ.t 37)] (ρ.t 127) #[.slice none 0 0]).run P w.drew = .ok (.pointer none) w.drew := rfl
  have mixed := L.mixed
  have t72 := L.t72; have a72 := L.a72; have z72 := L.z72; have v72 := L.v72; have u72 := run_underlying L.t72
  have t70 := L.t70; have a70 := L.a70; have z70 := L.z70; have v70 := L.v70; have u70 := run_underlying L.t70
  have t37 := L.t37; have a37 := L.a37; have z37 := L.z37; have v37 := L.v37; have u37 := run_underlying L.t37
  have t127 := L.t127; have a127 := L.a127; have z127 := L.z127; have v127 := L.v127; have u127 := run_underlying L.t127
  have t3 := L.t3; have a3 := L.a3; have z3 := L.z3; have v3 := L.v3; have u3 := run_underlying L.t3
  have t9 := L.t9; have a9 := L.a9; have z9 := L.z9; have v9 := L.v9; have u9 := run_underlying L.t9
  have t5 := X.t5; have a5 := X.a5; have z5 := X.z5; have v5 := X.v5; have u5 := run_underlying X.t5
  go_enter L.f169, Body.n169_ntmps ρ
  go_wp2
  go_region_o
  all_goals (go_wp2; go_ret; exact ⟨rfl, rfl⟩)

set_option maxHeartbeats 2000000 in
set_option maxRecDepth 100000 in
theorem string_noroom (L : Lays.n169 P ρ) (X : Builder.Extra P ρ) {b g : Nat} {p : Value} {cur : Array Value} {fz : Nat × Nat} (hbk : w.heap[b]? = some (.cells #[p, .slice (some ⟨g, 0, none⟩) 0 0] (ρ.t 72) (0, 0))) (hg : w.heap[g]? = some (.cells cur (ρ.t 5) fz)) :
    Calls P (ρ.f 169) #[.pointer (some ⟨b, 0, none⟩)] w fun e w' => e = .returned (.string ⟨#[]⟩) ∧ ∃ a e, w' = w.drew.alloc (.view a e) := by
  have hUS := Any.unsafeString_none L X
  have hlt : b < w.heap.size := by
    rcases Nat.lt_or_ge b w.heap.size with h' | h'
    · exact h'
    · simp [Array.getElem?_eq_none h'] at hbk
  have c1 : w.drew.cell? ⟨b, 1, none⟩ = some (.slice (some ⟨g, 0, none⟩) 0 0) := by
    have : w.drew.heap[b]? = some (.cells #[p, .slice (some ⟨g, 0, none⟩) 0 0] (ρ.t 72) (0, 0)) := hbk
    rw [Lib.cell_of_heap this]; rfl
  have hSD : (Builtin.unsafeSliceData_ #[(ρ.t 37)] (ρ.t 127) #[.slice (some ⟨g, 0, none⟩) 0 0]).run P w.drew = .ok (.pointer (some ⟨w.drew.heap.size, 0, none⟩)) (w.drew.alloc (.view ⟨g, 0, none⟩ (ρ.t 5))) :=
    Lib.run_unsafeSliceData_zero w.drew _ _ (ρ.t 5) L.t127 ⟨g, 0, none⟩ 0 ((ρ.t 5), cur.size) (by have hg' : w.drew.heap[g]? = some (.cells cur (ρ.t 5) fz) := hg; simp [World.shape?, hg'])
  have c2 : (w.drew.alloc (.view ⟨g, 0, none⟩ (ρ.t 5))).cell? ⟨b, 1, none⟩ = some (.slice (some ⟨g, 0, none⟩) 0 0) := by
    have : (w.drew.alloc (.view ⟨g, 0, none⟩ (ρ.t 5))).heap[b]? = _ := (Lib.alloc_old w.drew _ b hlt).trans hbk
    rw [Lib.cell_of_heap this]; rfl
  have c3 : (w.alloc (.view ⟨g, 0, none⟩ (ρ.t 5))).drew.cell? ⟨b, 1, none⟩ = some (.slice (some ⟨g, 0, none⟩) 0 0) := c2
  have c0 : w.cell? ⟨b, 1, none⟩ = some (.slice (some ⟨g, 0, none⟩) 0 0) := c1
  have mixed := L.mixed
  have t72 := L.t72; have a72 := L.a72; have z72 := L.z72; have v72 := L.v72; have u72 := run_underlying L.t72
  have t70 := L.t70; have a70 := L.a70; have z70 := L.z70; have v70 := L.v70; have u70 := run_underlying L.t70
  have t37 := L.t37; have a37 := L.a37; have z37 := L.z37; have v37 := L.v37; have u37 := run_underlying L.t37
  have t127 := L.t127; have a127 := L.a127; have z127 := L.z127; have v127 := L.v127; have u127 := run_underlying L.t127
  have t3 := L.t3; have a3 := L.a3; have z3 := L.z3; have v3 := L.v3; have u3 := run_underlying L.t3
  have t9 := L.t9; have a9 := L.a9; have z9 := L.z9; have v9 := L.v9; have u9 := run_underlying L.t9
  have t5 := X.t5; have a5 := X.a5; have z5 := X.z5; have v5 := X.v5; have u5 := run_underlying X.t5
  go_enter L.f169, Body.n169_ntmps ρ
  go_wp2
  go_region_o
  all_goals (go_wp2; go_ret; exact ⟨rfl, _, _, rfl⟩)

set_option maxHeartbeats 2000000 in
set_option maxRecDepth 100000 in
theorem string_room (L : Lays.n169 P ρ) (X : Builder.Extra P ρ) {b g cap : Nat} {p : Value} (hc0 : cap ≠ 0) (hbk : w.heap[b]? = some (.cells #[p, .slice (some ⟨g, 0, none⟩) 0 cap] (ρ.t 72) (0, 0))) :
    Calls P (ρ.f 169) #[.pointer (some ⟨b, 0, none⟩)] w fun e w' => e = .returned (.string ⟨#[]⟩) ∧ w' = w.drew := by
  have hUS := Any.unsafeString_none L X
  have c1 : w.drew.cell? ⟨b, 1, none⟩ = some (.slice (some ⟨g, 0, none⟩) 0 cap) := by
    have : w.drew.heap[b]? = some (.cells #[p, .slice (some ⟨g, 0, none⟩) 0 cap] (ρ.t 72) (0, 0)) := hbk
    rw [Lib.cell_of_heap this]; rfl
  have hSD : (Builtin.unsafeSliceData_ #[(ρ.t 37)] (ρ.t 127) #[.slice (some ⟨g, 0, none⟩) 0 cap]).run P w.drew = .ok (.pointer (some ⟨g, 0, none⟩)) w.drew :=
    Lib.run_unsafeSliceData_row _ _ _ _ _ _ hc0
  clear hc0
  have mixed := L.mixed
  have t72 := L.t72; have a72 := L.a72; have z72 := L.z72; have v72 := L.v72; have u72 := run_underlying L.t72
  have t70 := L.t70; have a70 := L.a70; have z70 := L.z70; have v70 := L.v70; have u70 := run_underlying L.t70
  have t37 := L.t37; have a37 := L.a37; have z37 := L.z37; have v37 := L.v37; have u37 := run_underlying L.t37
  have t127 := L.t127; have a127 := L.a127; have z127 := L.z127; have v127 := L.v127; have u127 := run_underlying L.t127
  have t3 := L.t3; have a3 := L.a3; have z3 := L.z3; have v3 := L.v3; have u3 := run_underlying L.t3
  have t9 := L.t9; have a9 := L.a9; have z9 := L.z9; have v9 := L.v9; have u9 := run_underlying L.t9
  have t5 := X.t5; have a5 := X.a5; have z5 := X.z5; have v5 := X.v5; have u5 := run_underlying X.t5
  go_enter L.f169, Body.n169_ntmps ρ
  go_wp2
  go_region_o
  all_goals (go_wp2; go_ret; exact ⟨rfl, rfl⟩)

theorem string_b (L : Lays.n169 P ρ) (X : Builder.Extra P ρ) {b : Nat} {p v : Value} {l : List UInt8} (h : BldAt (ρ.t 72) (ρ.t 5) b p v (Lib.byteCells l) w) :
    Calls P (ρ.f 169) #[.pointer (some ⟨b, 0, none⟩)] w fun e w' => e = .returned (.string ⟨l.toArray⟩) ∧ ReadOf v l.length w w' := by
  cases l with
  | cons x r => exact string_full L X h (by simp)
  | nil =>
    obtain ⟨hbk, _, hown, hne⟩ := h
    rcases hown.2 with ⟨rfl, _⟩ | ⟨g, cap, cur, fz, rfl, hbg, hg, _, _, _, _⟩
    · refine (string_nil L X hbk).mono ?_
      rintro e w' ⟨rfl, rfl⟩
      exact ⟨rfl, .inl rfl⟩
    · by_cases hc0 : cap = 0
      · subst hc0
        refine (string_noroom L X hbk hg).mono ?_
        rintro e w' ⟨rfl, hw⟩
        exact ⟨rfl, .inr (.inl hw)⟩
      · refine (string_room L X hc0 hbk).mono ?_
        rintro e w' ⟨rfl, rfl⟩
        exact ⟨rfl, .inl rfl⟩

end
end Go.Vm
end

section
/- A builder of the library's, as an object of the machine. Conditions: none. -/
namespace Go.Vm
open Go.RowKit

section
variable {P : Program} {gl : Nat → List D} {w w' : World} {G : Gh} {ρ : List Nat}

def WriteIs (P : Program) (t e f : Nat) : Prop := ∀ (b : Nat) (p v : Value) (bs : List Value) (s : ByteArray) (w : World), BldAt t e b p v bs w → bs.length + s.size ≤ 140737488355328 →
  Calls P f #[.pointer (some ⟨b, 0, none⟩), .string s] w fun x w' => x = .returned (.tuple #[.int .i64 s.size, .nilIface]) ∧ BldKept b v w w' ∧
    ∃ v', BldAt t e b (.pointer (some ⟨b, 0, none⟩)) v' (bs ++ Lib.strCells s) w' ∧ (∀ g, v'.ownBlock = some g → v.ownBlock = some g ∨ w.heap.size ≤ g) ∧ RowKept v e w w'

def StringIs (P : Program) (t e f : Nat) : Prop := ∀ (b : Nat) (p v : Value) (l : List UInt8) (w : World), BldAt t e b p v (Lib.byteCells l) w →
  Calls P f #[.pointer (some ⟨b, 0, none⟩)] w fun x w' => x = .returned (.string ⟨l.toArray⟩) ∧ ReadOf v l.length w w'

theorem bld_at {i b t e : Nat} {bs : List UInt8} (h : RelO w G ρ i b (.bld t e bs)) : ∃ p v, BldAt t e b p v (Lib.byteCells bs) w ∧ G b = some (.obj i, 0) ∧ ∀ g, v.ownBlock = some g → G g = some (.ocell i 1, 0) ∧ ∃ c fz, w.heap[g]? = some (.cells c e fz) := by
  obtain ⟨p, v, h1, h2, h3, h4⟩ := h
  have hlen : (Lib.byteCells bs).length = bs.length := Lib.byteCells_length bs
  rcases h4 with ⟨rfl, rfl⟩ | ⟨g, cap, c, fz, rfl, a2, a3, a4, a5, a6, a7, a8⟩
  · exact ⟨p, _, ⟨h1, h3, ⟨rfl, .inl ⟨rfl, rfl⟩⟩, by simp [Value.ownBlock]⟩, h2, fun g hg => by simp [Value.ownBlock] at hg⟩
  · refine ⟨p, _, ⟨h1, h3, ⟨by omega, .inr ⟨g, cap, c, fz, by rw [hlen], Nat.zero_le _, a2, by omega, by omega, a6, by omega, ?_⟩⟩, ?_⟩, h2, fun k hk => ?_⟩
    · rw [hlen, Nat.mul_one, a8]; rfl
    · intro hb
      simp only [Value.ownBlock, Option.some.injEq] at hb
      subst hb
      rw [h2] at a3
      simp at a3
    · simp only [Value.ownBlock, Option.some.injEq] at hk
      subst hk
      exact ⟨a3, c, fz, a2⟩

theorem bld_rel {i b t e : Nat} {p v : Value} {bs : List UInt8} (h : BldAt t e b p v (Lib.byteCells bs) w) (h1 : G b = some (.obj i, 0)) (h2 : ∀ g, v.ownBlock = some g → G g = some (.ocell i 1, 0)) : RelO w G ρ i b (.bld t e bs) := by
  obtain ⟨g1, g2, g3, g4⟩ := h
  have hlen : (Lib.byteCells bs).length = bs.length := Lib.byteCells_length bs
  refine ⟨p, v, g1, h1, g2, ?_⟩
  rcases g3.2 with ⟨rfl, h0⟩ | ⟨g, cap, c, fz, rfl, _, a2, a3, a4, a5, a6, a7⟩
  · exact .inl ⟨rfl, by cases bs with | nil => rfl | cons _ _ => simp [Lib.byteCells] at h0⟩
  · refine .inr ⟨g, cap, c, fz, by rw [hlen], a2, h2 g rfl, by omega, by omega, a5, by omega, ?_⟩
    rw [hlen, Nat.mul_one] at a7
    exact a7

/-- What is known of the memory behind a call that changes a builder alone. -/
theorem bld_change {i b : Nat} {v : Value} {G' : Gh} {s s' : Store} {o' : Ob} (hob : RelObs w G ρ s) (hlt : ∀ b L n, G b = some (L, n) → b < w.heap.size) (hi : ρ[i]? = some (b + 1)) (hs' : s' = s.set i o') (hb : G b = some (.obj i, 0))
    (hv : ∀ g, v.ownBlock = some g → G g = some (.ocell i 1, 0)) (hk : BldKept b v w w') (hG : ∀ k, G' k = G k ∨ (w.heap.size ≤ k ∧ k < w'.heap.size ∧ G' k = some (.ocell i 1, 0)))
    (hSz : ∀ k n, (k = b ∨ v.ownBlock = some k) → Sz w k n → Sz w' k n) (ho : RelO w' G' ρ i b o') :
    RelObs w' G' ρ s' ∧ (∀ b L n, G' b = some (L, n) → b < w'.heap.size) ∧ Good w G w' G' := by
  have hold : ∀ k, k < w.heap.size → G' k = G k := fun k hk => (hG k).resolve_right fun h => absurd h.1 (Nat.not_le.2 hk)
  have hfree : ∀ k, k < w.heap.size → (∀ n, G k ≠ some (.obj i, n)) → (∀ n, G k ≠ some (.ocell i 1, n)) → w'.heap[k]? = w.heap[k]? := fun k hk1 h1 h2 =>
    hk.block k hk1 (fun e => h1 0 (by rw [e]; exact hb)) (fun e => h2 0 (hv k e))
  have hkeep : Keeps w G w' G' := by
    refine ⟨fun k off u hc => ?_, fun k ks vs hm => ?_, fun k n hs => ?_⟩
    · have hk1 := cell_lt hc.1
      have hz : ∀ L, G k ≠ some (L, 0) := fun L h => absurd (hc.2.1 L 0 h) (Nat.not_lt_zero _)
      refine ⟨?_, ?_, hc.2.2⟩
      · rw [World.cell?_of_block (hk.block k hk1 (fun e => hz _ (by rw [e]; exact hb)) (fun e => hz _ (hv k e)))]; exact hc.1
      · intro L n h
        rw [hold k hk1] at h
        exact hc.2.1 L n h
    · obtain ⟨h1, mes, clock, h2, h3⟩ := hm
      have hk1 : k < w.heap.size := (Array.getElem?_eq_some_iff.1 h2).1
      exact ⟨by rw [hold k hk1]; exact h1, mes, clock, (hfree k hk1 (fun n h => by rw [h1] at h; simp at h) (fun n h => by rw [h1] at h; simp at h)).trans h2, h3⟩
    · by_cases hkk : k = b ∨ v.ownBlock = some k
      · exact hSz k n hkk hs
      · obtain ⟨c, E, fz, h2, h3⟩ := hs
        exact ⟨c, E, fz, (hk.block k (Array.getElem?_eq_some_iff.1 h2).1 (fun e => hkk (.inl e)) (fun e => hkk (.inr e))).trans h2, h3⟩
  refine ⟨⟨by rw [hs', List.length_set]; exact hob.1, fun j c o hj ho' => ?_⟩, fun k L n h => ?_, ?_⟩
  · by_cases hji : j = i
    · subst hji
      rw [hi] at hj
      obtain rfl : b = c := by simpa using hj
      have hl : j < s.length := by
        rw [← hob.1]
        exact (List.getElem?_eq_some_iff.1 hi).1
      rw [hs', List.getElem?_set_self hl] at ho'
      simp only [Option.some.injEq] at ho'
      subst ho'
      exact ho
    · rw [hs', List.getElem?_set_ne (fun e => hji e.symm)] at ho'
      refine (hob.2 j c o hj ho').tr hkeep (fun _ _ h => h) (fun k n h => ?_) (fun m k n h => ?_)
      · have := hlt _ _ _ h
        exact ⟨hfree k this (fun n' h' => by rw [h] at h'; simp at h'; exact hji h'.1) (fun n' h' => by rw [h] at h'; simp at h'), by rw [hold k this]; exact h⟩
      · have := hlt _ _ _ h
        exact ⟨hfree k this (fun n' h' => by rw [h] at h'; simp at h') (fun n' h' => by rw [h] at h'; simp at h'; exact hji h'.1.1), by rw [hold k this]; exact h⟩
  · rcases hG k with h' | ⟨_, h', _⟩
    · rw [h'] at h; exact Nat.lt_of_lt_of_le (hlt k L n h) hk.size
    · exact h'
  · refine ⟨hk.size, fun k hk1 h => ⟨hfree k hk1 (fun n h' => ?_) (fun n h' => ?_), hold k hk1⟩, fun k n hk1 h => ?_, fun k n hk1 h => by rw [hold k hk1] at h; exact h, hkeep, hk.os, hk.out⟩
    · rw [h'] at h; rcases h with h | ⟨_, h⟩ <;> simp at h
    · rw [h'] at h; rcases h with h | ⟨_, h⟩ <;> simp at h
    · rcases hG k with h' | ⟨_, _, h'⟩
      · rw [h'] at h; exact absurd (hlt k _ n h) (Nat.not_lt.2 hk1)
      · rw [h'] at h; simp at h

theorem vev_write {f i t e : Nat} {bs x : List UInt8} {s : Store} (hf : Callable P f) (W : WriteIs P t e f) (hs : s[i]? = some (.bld t e bs)) (hlen : bs.length + x.length ≤ 140737488355328) :
    VEv P gl f [.ptr i 0, .d (.str x)] s (.tuple [.d (.int .i64 x.length), .d .nili]) (s.set i (.bld t e (bs ++ x))) := by
  refine ⟨hf, fun w G ρ vs hob hg hlt hv => ?_⟩
  cases hv with
  | cons v1 _ vs1 _ h1 h2 => cases h2 with
    | cons v2 _ vs2 _ h3 h4 =>
      cases h4
      cases h1 with
      | ptr _ _ b hi => cases h3 with
        | d _ _ h3 => cases h3 with
          | str sp _ hsp =>
            subst hsp
            obtain ⟨p, v, hA, hb, hvG⟩ := bld_at (hob.2 i b _ hi hs)
            have hsz : sp.size = sp.data.toList.length := rfl
            refine (W b p v _ sp w hA (by rw [Lib.byteCells_length, hsz]; exact hlen)).mono ?_
            rintro x w' ⟨rfl, hk, v', hA', hnew, hrow⟩
            have hcells : Lib.byteCells bs ++ Lib.strCells sp = Lib.byteCells (bs ++ sp.data.toList) := by simp [Lib.byteCells, Lib.strCells]
            rw [hcells] at hA'
            have hv'lt : ∀ g, v'.ownBlock = some g → g < w'.heap.size := by
              intro g hg'
              rcases hA'.2.2.1.2 with ⟨rfl, _⟩ | ⟨g2, cap, c, fz, rfl, _, a2, _⟩
              · simp [Value.ownBlock] at hg'
              · simp only [Value.ownBlock, Option.some.injEq] at hg'
                subst hg'
                exact (Array.getElem?_eq_some_iff.1 a2).1
            let G' : Gh := fun k => if v'.ownBlock = some k then some (.ocell i 1, 0) else G k
            have hG' : ∀ k, G' k = G k ∨ (w.heap.size ≤ k ∧ k < w'.heap.size ∧ G' k = some (.ocell i 1, 0)) := by
              intro k
              by_cases hk' : v'.ownBlock = some k
              · rcases hnew k hk' with h | h
                · exact .inl (by simp only [G', if_pos hk']; exact (hvG k h).1.symm)
                · exact .inr ⟨h, hv'lt k hk', by simp only [G', if_pos hk']⟩
              · exact .inl (by simp only [G', if_neg hk'])
            have hbG : G' b = some (.obj i, 0) := by
              have : v'.ownBlock ≠ some b := hA'.2.2.2
              simp only [G', if_neg this]
              exact hb
            obtain ⟨r1, r2, r3⟩ := bld_change (s' := s.set i (.bld t e (bs ++ sp.data.toList))) (G' := G') hob hlt hi rfl hb (fun g h => (hvG g h).1) hk hG' (fun k n hkk hS => by
              rcases hkk with rfl | hkk
              · obtain ⟨c, E, fz, q1, q2⟩ := hS
                rw [hA.1] at q1
                simp only [Option.some.injEq, Obj.cells.injEq] at q1
                obtain ⟨rfl, _, _⟩ := q1
                exact ⟨_, _, _, hA'.1, q2⟩
              · obtain ⟨c, E, fz, q1, q2⟩ := hS
                obtain ⟨_, c2, fz2, q3⟩ := hvG k hkk
                rw [q1] at q3
                simp only [Option.some.injEq, Obj.cells.injEq] at q3
                obtain ⟨rfl, rfl, rfl⟩ := q3
                obtain ⟨c', fz', q4, q5⟩ := hrow k c fz hkk q1
                exact ⟨c', _, fz', q4, by omega⟩) (bld_rel hA' hbG (fun g hg' => by simp only [G', if_pos hg']))
            refine ⟨_, G', ρ, rfl, ?_, r1, r2, r3, fun _ _ h => h⟩
            exact .tuple [.int .i64 sp.size, .nilIface] _ (.cons _ _ _ _ (.d _ _ (by rw [hsz]; exact .int _ _)) (.cons _ _ _ _ (.d _ _ .nili) .nil))

theorem vev_string {f i t e : Nat} {bs : List UInt8} {s : Store} (hf : Callable P f) (W : StringIs P t e f) (hs : s[i]? = some (.bld t e bs)) : VEv P gl f [.ptr i 0] s (.d (.str bs)) s := by
  refine ⟨hf, fun w G ρ vs hob hg hlt hv => ?_⟩
  cases hv with
  | cons v1 _ vs1 _ h1 h2 =>
    cases h2
    cases h1 with
    | ptr _ _ b hi =>
      obtain ⟨p, v, hA, hb, hvG⟩ := bld_at (hob.2 i b _ hi hs)
      refine (W b p v bs w hA).mono ?_
      rintro x w' ⟨rfl, hR⟩
      have hset : s.set i (.bld t e bs) = s := by
        apply List.ext_getElem?
        intro j
        rw [List.getElem?_set]
        split
        · rename_i hj; subst hj
          rw [hs, if_pos (List.getElem?_eq_some_iff.1 hs).1]
        · rfl
      have hsz : ∀ {n : Nat}, w'.heap.size = w.heap.size ∨ True := fun {_} => .inr trivial
      have main : BldKept b v w w' → BldAt t e b p v (Lib.byteCells bs) w' → (∀ k n, (k = b ∨ v.ownBlock = some k) → Sz w k n → Sz w' k n) → ∃ v0 G' ρ', Ending.returned (Value.string ⟨bs.toArray⟩) = .returned v0 ∧ RelV w' G' ρ' .res v0 (.d (.str bs)) ∧ RelObs w' G' ρ' s ∧ (∀ b L n, G' b = some (L, n) → b < w'.heap.size) ∧ Good w G w' G' ∧ (∀ i b : Nat, ρ[i]? = some b → ρ'[i]? = some b) := by
        intro hk hA' hS
        obtain ⟨r1, r2, r3⟩ := bld_change (s' := s) (G' := G) hob hlt hi hset.symm hb (fun g h => (hvG g h).1) hk (fun _ => .inl rfl) hS (bld_rel hA' hb (fun g h => (hvG g h).1))
        exact ⟨_, G, ρ, rfl, .d _ _ (.str _ _ rfl), r1, r2, r3, fun _ _ h => h⟩
      rcases hR with rfl | ⟨a, ty, rfl⟩ | ⟨g, c, rfl, hn, rfl⟩
      · exact main ⟨rfl, rfl, Nat.le_refl _, fun _ _ _ _ => rfl⟩ hA (fun _ _ _ h => h)
      · have hold : ∀ k, k < w.heap.size → (w.drew.alloc (.view a ty)).heap[k]? = w.heap[k]? := fun k hk => Lib.alloc_old w.drew _ k hk
        refine main ⟨rfl, rfl, by rw [World.size_alloc]; exact Nat.le_succ _, fun k hk _ _ => hold k hk⟩ ?_ (fun k n _ hS => ?_)
        · obtain ⟨q1, q2, q3, q4⟩ := hA
          refine ⟨(hold b (Array.getElem?_eq_some_iff.1 q1).1).trans q1, q2, ⟨q3.1, ?_⟩, q4⟩
          rcases q3.2 with h | ⟨g, cap, cur, fz, e1, e2, e3, e4⟩
          · exact .inl h
          · exact .inr ⟨g, cap, cur, fz, e1, e2, (hold g (Array.getElem?_eq_some_iff.1 e3).1).trans e3, e4⟩
        · obtain ⟨c, E, fz, e1, e2⟩ := hS
          exact ⟨c, E, fz, (hold k (Array.getElem?_eq_some_iff.1 e1).1).trans e1, e2⟩
      · obtain ⟨q1, q2, q3, q4⟩ := hA
        have hgb : g ≠ b := fun e => q4 (by rw [e]; rfl)
        have hfr : ∀ k, k ≠ g → (w.drew.freeze ⟨g, 0, none⟩ bs.length).heap[k]? = w.heap[k]? := by
          intro k hk
          unfold World.freeze
          rw [if_neg hn]
          simp only [Array.getElem?_modify]
          rw [if_neg (fun e => hk e.symm)]
          rfl
        have hfg : ∀ cur E fz, w.heap[g]? = some (.cells cur E fz) → ∃ fz', (w.drew.freeze ⟨g, 0, none⟩ bs.length).heap[g]? = some (.cells cur E fz') ∧ fz'.2 ≤ max fz.2 bs.length := by
          intro cur E fz h
          have h' : w.drew.heap[g]? = some (.cells cur E fz) := h
          obtain ⟨lo, hi'⟩ := fz
          unfold World.freeze
          rw [if_neg hn]
          simp only [Array.getElem?_modify, if_true, h', Option.map_some]
          refine ⟨_, rfl, ?_⟩
          split <;> simp <;> omega
        have hsize : (w.drew.freeze ⟨g, 0, none⟩ bs.length).heap.size = w.heap.size := by
          unfold World.freeze
          rw [if_neg hn]
          simp
        refine main ⟨by unfold World.freeze; rw [if_neg hn]; rfl, by unfold World.freeze; rw [if_neg hn]; rfl, by omega, fun k hk hkb hkv => hfr k (fun e => hkv (by rw [e]; rfl))⟩ ?_ (fun k n hkk hS => ?_)
        · refine ⟨(hfr b (fun e => hgb e.symm)).trans q1, q2, ⟨q3.1, ?_⟩, q4⟩
          rcases q3.2 with ⟨h, _⟩ | ⟨g2, cap, cur, fz, e1, e2, e3, e4, e5⟩
          · simp at h
          · have e1' := e1
            simp only [Value.slice.injEq, Option.some.injEq, Addr.mk.injEq, and_true] at e1'
            obtain ⟨rfl, _, _⟩ := e1'
            obtain ⟨fz', f1, f2⟩ := hfg _ _ _ e3
            refine .inr ⟨g, cap, cur, fz', e1, e2, f1, ?_, e5⟩
            rw [Lib.byteCells_length] at e4 ⊢
            omega
        · obtain ⟨c0, E, fz, e1, e2⟩ := hS
          by_cases hkg : k = g
          · subst hkg
            obtain ⟨fz', f1, f2⟩ := hfg _ _ _ e1
            exact ⟨c0, E, fz', f1, e2⟩
          · exact ⟨c0, E, fz, (hfr k hkg).trans e1, e2⟩

end
end Go.Vm
end

section
/- The library's functions that a run may call, in one table. Conditions: none. -/
namespace Go.Vm

def big47 : Nat := 140737488355328

def extW (t e : Nat) (args : List Val) (s : Store) : Out := match args with
  | [.ptr i 0, .d (.str x)] => match s[i]? with
    | some (.bld t' e' bs) => cond (Nat.beq t' t && Nat.beq e' e && Nat.ble (bs.length + x.length) big47) (some (.tuple [.d (.int .i64 x.length), .d .nili], s.set i (.bld t' e' (bs ++ x)))) none
    | _ => none
  | _ => none

def extS (t e : Nat) (args : List Val) (s : Store) : Out := match args with
  | [.ptr i 0] => match s[i]? with
    | some (.bld t' e' bs) => cond (Nat.beq t' t && Nat.beq e' e) (some (.d (.str bs), s)) none
    | _ => none
  | _ => none

def extJ (args : List Val) (s : Store) : Out := match args with
  | [l, .d (.str sep)] => match joinArg s l with
    | some ss => cond (Nat.ble ss.length big47 && Nat.ble (joinB sep ss).length big47) (some (.d (.str (joinB sep ss)), s)) none
    | none => none
  | _ => none

def extI (args : List Val) (s : Store) : Out := match args with
  | [.d (.int .i64 (.ofNat n))] => cond (Nat.blt n 100) (some (.d (.str (digB 2 n [])), s)) none
  | _ => none

def extA (args : List Val) (s : Store) : Out := match args with
  | [.d (.str x)] => match Lib.atoiAll x with
    | .ok v => cond (Nat.ble x.length 9223372036854775806) (some (.tuple [.d (.int .i64 v), .d .nili], s)) none
    | _ => none
  | _ => none

def extOf (t e fw fs fj fi fa : Nat) : Nat → List Val → Store → Out := fun f args s =>
  cond (Nat.beq f fw) (extW t e args s) (cond (Nat.beq f fs) (extS t e args s) (cond (Nat.beq f fj) (extJ args s) (cond (Nat.beq f fi) (extI args s) (cond (Nat.beq f fa) (extA args s) none))))

structure Exts (P : Program) (t e fw fs fj fi fa : Nat) : Prop where
  cw : Callable P fw
  cs : Callable P fs
  cj : Callable P fj
  ci : Callable P fi
  ca : Callable P fa
  w : WriteIs P t e fw
  s : StringIs P t e fs
  j : JoinIs P fj
  i : ItoaIs P fi
  a : AtoiIs P fa

theorem extW_ok {P : Program} {gl : Nat → List D} {t e f : Nat} {args : List Val} {s : Store} {r : Val} {s' : Store} (hf : Callable P f) (W : WriteIs P t e f) (h : extW t e args s = some (r, s')) : VEv P gl f args s r s' := by
  unfold extW at h
  split at h
  · rename_i i x
    split at h
    · rename_i t' e' bs hs
      cases hc : (Nat.beq t' t && Nat.beq e' e && Nat.ble (bs.length + x.length) big47) with
      | false => rw [hc] at h; simp at h
      | true =>
        rw [hc] at h
        simp only [Bool.and_eq_true] at hc
        simp only [cond_true, Option.some.injEq, Prod.mk.injEq] at h
        obtain ⟨rfl, rfl⟩ := h
        obtain rfl := Nat.eq_of_beq_eq_true hc.1.1
        obtain rfl := Nat.eq_of_beq_eq_true hc.1.2
        exact vev_write hf W hs (Nat.le_of_ble_eq_true hc.2)
    · simp at h
  · simp at h

theorem extS_ok {P : Program} {gl : Nat → List D} {t e f : Nat} {args : List Val} {s : Store} {r : Val} {s' : Store} (hf : Callable P f) (W : StringIs P t e f) (h : extS t e args s = some (r, s')) : VEv P gl f args s r s' := by
  unfold extS at h
  split at h
  · rename_i i
    split at h
    · rename_i t' e' bs hs
      cases hc : (Nat.beq t' t && Nat.beq e' e) with
      | false => rw [hc] at h; simp at h
      | true =>
        rw [hc] at h
        simp only [Bool.and_eq_true] at hc
        simp only [cond_true, Option.some.injEq, Prod.mk.injEq] at h
        obtain ⟨rfl, rfl⟩ := h
        obtain rfl := Nat.eq_of_beq_eq_true hc.1
        obtain rfl := Nat.eq_of_beq_eq_true hc.2
        exact vev_string hf W hs
    · simp at h
  · simp at h

theorem extJ_ok {P : Program} {gl : Nat → List D} {f : Nat} {args : List Val} {s : Store} {r : Val} {s' : Store} (hf : Callable P f) (W : JoinIs P f) (h : extJ args s = some (r, s')) : VEv P gl f args s r s' := by
  unfold extJ at h
  split at h
  · rename_i l sep
    split at h
    · rename_i ss hs
      cases hc : (Nat.ble ss.length big47 && Nat.ble (joinB sep ss).length big47) with
      | false => rw [hc] at h; simp at h
      | true =>
        rw [hc] at h
        simp only [Bool.and_eq_true] at hc
        simp only [cond_true, Option.some.injEq, Prod.mk.injEq] at h
        obtain ⟨rfl, rfl⟩ := h
        exact vev_join hf W hs (Nat.le_of_ble_eq_true hc.1) (Nat.le_of_ble_eq_true hc.2)
    · simp at h
  · simp at h

theorem extI_ok {P : Program} {gl : Nat → List D} {f : Nat} {args : List Val} {s : Store} {r : Val} {s' : Store} (hf : Callable P f) (W : ItoaIs P f) (h : extI args s = some (r, s')) : VEv P gl f args s r s' := by
  unfold extI at h
  split at h
  · rename_i n
    cases hc : Nat.blt n 100 with
    | false => rw [hc] at h; simp at h
    | true =>
      rw [hc] at h
      simp only [cond_true, Option.some.injEq, Prod.mk.injEq] at h
      obtain ⟨rfl, rfl⟩ := h
      exact vev_itoa hf W (by simpa [Nat.blt_eq] using hc)
  · simp at h

theorem extA_ok {P : Program} {gl : Nat → List D} {f : Nat} {args : List Val} {s : Store} {r : Val} {s' : Store} (hf : Callable P f) (W : AtoiIs P f) (h : extA args s = some (r, s')) : VEv P gl f args s r s' := by
  unfold extA at h
  split at h
  · rename_i x
    split at h
    · rename_i v hv
      cases hc : Nat.ble x.length 9223372036854775806 with
      | false => rw [hc] at h; simp at h
      | true =>
        rw [hc] at h
        simp only [cond_true, Option.some.injEq, Prod.mk.injEq] at h
        obtain ⟨rfl, rfl⟩ := h
        exact vev_atoi hf W (Nat.le_of_ble_eq_true hc) hv
    · simp at h
  · simp at h

theorem extOf_ok {P : Program} {gl : Nat → List D} {t e fw fs fj fi fa : Nat} (X : Exts P t e fw fs fj fi fa) : CallOk P gl (extOf t e fw fs fj fi fa) := by
  intro f args s r s' h
  unfold extOf at h
  cases h1 : Nat.beq f fw with
  | true => rw [h1] at h; rw [Nat.eq_of_beq_eq_true h1]; exact extW_ok X.cw X.w h
  | false =>
    rw [h1] at h
    cases h2 : Nat.beq f fs with
    | true => rw [h2] at h; rw [Nat.eq_of_beq_eq_true h2]; exact extS_ok X.cs X.s h
    | false =>
      rw [h2] at h
      cases h3 : Nat.beq f fj with
      | true => rw [h3] at h; rw [Nat.eq_of_beq_eq_true h3]; exact extJ_ok X.cj X.j h
      | false =>
        rw [h3] at h
        cases h4 : Nat.beq f fi with
        | true => rw [h4] at h; rw [Nat.eq_of_beq_eq_true h4]; exact extI_ok X.ci X.i h
        | false =>
          rw [h4] at h
          cases h5 : Nat.beq f fa with
          | true => rw [h5] at h; rw [Nat.eq_of_beq_eq_true h5]; exact extA_ok X.ca X.a h
          | false => rw [h5] at h; simp at h

end Go.Vm
end

section
/- What can be read as data has a tree. Conditions: none. -/
namespace Go.Vm

/-- The kinds of cells. -/
inductive CT where
  | bool
  | int (k : IntKind)
  | str
  | list (ag : Bool) (ts : List CT)
  deriving Inhabited, Repr

mutual
/-- Is a cell of its kind, and its lists and texts no longer than 'N'? -/
inductive OkC (N : Nat) : CT → D → Prop
  | bool (b : Bool) : OkC N .bool (.bool b)
  | int (k : IntKind) (n : Int) : k.min ≤ n → n ≤ k.max → OkC N (.int k) (.int k n)
  | str (s : List UInt8) : s.length ≤ N → OkC N .str (.str s)
  | list (ag : Bool) (ts : List CT) (l : List D) : l.length ≤ N → OkE N ag ts l → OkC N (.list ag ts) (.list ts.length l)
/-- Elements. -/
inductive OkE (N : Nat) : Bool → List CT → List D → Prop
  | nil (ag : Bool) (ts : List CT) : OkE N ag ts []
  | agg (ts : List CT) (cs : List D) (l : List D) : OkL N ts cs → OkE N true ts l → OkE N true ts (.agg cs :: l)
  | one (t : CT) (x : D) (l : List D) : OkC N t x → OkE N false [t] l → OkE N false [t] (x :: l)
inductive OkL (N : Nat) : List CT → List D → Prop
  | nil : OkL N [] []
  | cons (t : CT) (x : D) (ts : List CT) (xs : List D) : OkC N t x → OkL N ts xs → OkL N (t :: ts) (x :: xs)
end

section
variable (P : Program)

def ctFields (f : Nat → Option (Bool × List CT)) : List Field → Nat → Option (List CT)
  | [], _ => some []
  | x :: xs, off => match f x.type with
    | some (_, a) => match ctFields f xs (off + a.length) with
      | some b => if x.offset = off ∧ P.cellsOf x.type = a.length then some (a ++ b) else none
      | none => none
    | none => none

/-- The kinds of a type's cells; is it a struct? -/
def ctOf : Nat → Nat → Option (Bool × List CT)
  | 0, _ => none
  | n + 1, t => match P.underlying t with
    | some .bool => some (false, [.bool])
    | some (.int k) => some (false, [.int k])
    | some .string => some (false, [.str])
    | some (.slice e) => match ctOf n e with
      | some (ag, ts) => if P.cellsOf e = ts.length ∧ 0 < ts.length then some (false, [.list ag ts]) else none
      | none => none
    | some (.struct fs) => match ctFields P (ctOf n) fs.toList 0 with
      | some ts => if P.cellsOf t = ts.length then some (true, ts) else none
      | none => none
    | _ => none
end

/-- What a measure of sizes keeps. -/
structure BulkLike {H : Type} (B : DataW H → Nat) : Prop where
  str : ∀ s, s.length ≤ B (.lit (.string s))
  slice : ∀ es sp, es.length ≤ B (.slice es sp) ∧ ∀ x, x ∈ es → B x ≤ B (.slice es sp)
  agg : ∀ ps x, x ∈ ps → B x ≤ B (.agg ps)

def G0 : Gh := fun _ => none

section
variable {P : Program} {W : World} {N off : Nat}

theorem OkL.append {ts us : List CT} {xs ys : List D} (h : OkL N ts xs) (h2 : OkL N us ys) : OkL N (ts ++ us) (xs ++ ys) := by
  induction ts generalizing xs with
  | nil => cases h; exact h2
  | cons t ts ih => cases h with | cons _ _ _ _ a b => exact .cons _ _ _ _ a (ih b)

theorem OkL.length {ts : List CT} {xs : List D} (h : OkL N ts xs) : xs.length = ts.length := by
  induction ts generalizing xs with
  | nil => cases h; rfl
  | cons t ts ih => cases h with | cons _ _ _ _ a b => simp [ih b]

theorem cell_add {b off j : Nat} : W.cell? ((⟨b, off, none⟩ : Addr).add j) = W.cell? ⟨b, off + j, none⟩ := by
  unfold Addr.add
  split
  · rename_i h; subst h; rfl
  · rfl

theorem cellsAt_of {b off n : Nat} {vs : List Value} (h : W.cells? 0 ⟨b, off, none⟩ n = some vs) (h1 : ∀ v, v ∈ vs → v.oneCell' = true) : vs.length = n ∧ CellsAt W G0 b off vs := by
  obtain ⟨_, hl, hc⟩ := World.cells?_some h
  refine ⟨hl, fun j v hv => ⟨?_, fun L n h => by simp [G0] at h, h1 v (List.mem_of_getElem? hv)⟩⟩
  have hj : j < vs.length := by
    rcases Nat.lt_or_ge j vs.length with h | h
    · exact h
    · rw [List.getElem?_eq_none h] at hv; simp at hv
  have := hc j (by omega)
  rw [cell_add] at this
  rw [this]; exact hv

theorem CellsAt.app {b off : Nat} {vs us : List Value} (h : CellsAt W G0 b off vs) (h2 : CellsAt W G0 b (off + vs.length) us) : CellsAt W G0 b off (vs ++ us) := by
  intro j v hv
  rcases Nat.lt_or_ge j vs.length with hj | hj
  · rw [List.getElem?_append_left hj] at hv; exact h j v hv
  · rw [List.getElem?_append_right hj] at hv
    have := h2 _ v hv
    rwa [show off + vs.length + (j - vs.length) = off + j by omega] at this

/-- An element of its kinds, made of its cells. -/
def mkE (ag : Bool) (xs : List D) : D := if ag then .agg xs else xs.getD 0 .nilp

theorem OkE.cons_mk {ag : Bool} {ts : List CT} {xs : List D} {l : List D} (hag : ag = false → ∃ t, ts = [t]) (h : OkL N ts xs) (h2 : OkE N ag ts l) : OkE N ag ts (mkE ag xs :: l) ∧ (mkE ag xs).cells = xs := by
  cases ag with
  | true => exact ⟨.agg _ _ _ h h2, rfl⟩
  | false =>
    obtain ⟨t, rfl⟩ := hag rfl
    cases h with
    | cons _ x _ xs h1 h3 =>
      cases h3
      refine ⟨.one _ _ _ h1 h2, ?_⟩
      simp only [mkE, Bool.false_eq_true, if_false, List.getD_cons_zero]
      cases h1 <;> rfl

theorem ctOf_one {n t : Nat} {ts : List CT} (h : ctOf P n t = some (false, ts)) : ∃ c, ts = [c] := by
  cases n with
  | zero => simp [ctOf] at h
  | succ n =>
    simp only [ctOf] at h
    split at h
    all_goals (try (simp only [Option.some.injEq, Prod.mk.injEq, true_and] at h; exact ⟨_, h.symm⟩))
    · split at h
      · split at h
        · simp only [Option.some.injEq, Prod.mk.injEq, true_and] at h; exact ⟨_, h.symm⟩
        · simp at h
      · simp at h
    · split at h
      · split at h
        · simp at h
        · simp at h
      · simp at h
    · simp at h

theorem rd_fields {H : Type} {f : Field → List Value → Option (DataW H × List MemPlace)} {B : DataW H → Nat} {cs : List Value} {g : Nat → Option (Bool × List CT)} :
    ∀ {fs : List Field} {off : Nat} {ts : List CT} {ys : List (DataW H × List MemPlace)}, ctFields P g fs off = some ts → (fs.mapM fun x => f x ((cs.drop x.offset).take (P.cellsOf x.type))) = some ys → (∀ y, y ∈ ys → B y.1 ≤ N) →
    (∀ x, x ∈ fs → ∀ cs d ps ag ts, g x.type = some (ag, ts) → f x cs = some (d, ps) → B d ≤ N → ∃ xs, RdL W G0 cs xs ∧ OkL N ts xs ∧ ∀ v, v ∈ cs → v.oneCell' = true) →
    ∃ xs, RdL W G0 ((cs.drop off).take ts.length) xs ∧ OkL N ts xs ∧ ∀ v, v ∈ (cs.drop off).take ts.length → v.oneCell' = true
  | [], off, ts, ys, h1, h2, h3, h4 => by
    simp only [ctFields, Option.some.injEq] at h1
    subst h1
    exact ⟨[], by simpa using .nil, .nil, by simp⟩
  | x :: fs, off, ts, ys, h1, h2, h3, h4 => by
    simp only [ctFields] at h1
    split at h1
    · rename_i ag a ha
      split at h1
      · rename_i b hb
        split at h1
        · rename_i hc
          simp only [Option.some.injEq] at h1
          subst h1
          simp only [List.mapM_cons, Option.bind_eq_bind, Option.bind_eq_some_iff, Option.pure_def, Option.some.injEq] at h2
          obtain ⟨y, hy, ys', hys, rfl⟩ := h2
          obtain ⟨d, ps⟩ := y
          obtain ⟨xs, e1, e2, e3⟩ := h4 x (by simp) _ d ps _ _ ha hy (h3 (d, ps) (by simp))
          obtain ⟨zs, f1, f2, f3⟩ := rd_fields (off := off + a.length) hb hys (fun y hy => h3 y (by simp [hy])) (fun x hx => h4 x (by simp [hx]))
          rw [hc.1, hc.2] at e1 e3
          have hsplit : (cs.drop off).take (a ++ b).length = (cs.drop off).take a.length ++ (cs.drop (off + a.length)).take b.length := by
            rw [List.length_append, List.take_add, List.drop_drop]
          refine ⟨xs ++ zs, ?_, e2.append f2, ?_⟩
          · rw [hsplit]; exact e1.append f1
          · rw [hsplit]
            intro v hv
            rcases List.mem_append.1 hv with h | h
            · exact e3 v h
            · exact f3 v h
        · simp at h1
      · simp at h1
    · simp at h1

theorem rd_elems {Y : Type} {b sz : Nat} {ag : Bool} {ts : List CT} (hsz : sz = ts.length) (hag : ag = false → ∃ t, ts = [t]) :
    ∀ {ys : List Y} {k : Nat}, (∀ i y, ys[i]? = some y → ∃ vs xs, vs.length = sz ∧ CellsAt W G0 b (off + (k + i) * sz) vs ∧ RdL W G0 vs xs ∧ OkL N ts xs) →
    ∃ (l : List D) (vs : List Value), l.length = ys.length ∧ (∀ d, d ∈ l → d.cells.length = sz) ∧ CellsAt W G0 b (off + k * sz) vs ∧ RdL W G0 vs (l.flatMap D.cells) ∧ OkE N ag ts l
  | [], k, _ => ⟨[], [], rfl, by simp, fun j v hv => by simp at hv, .nil, .nil _ _⟩
  | y :: ys, k, h => by
    obtain ⟨vs, xs, e1, e2, e3, e4⟩ := h 0 y rfl
    obtain ⟨l, us, f1, f2, f3, f4, f5⟩ := rd_elems hsz hag (ys := ys) (k := k + 1) fun i y hy => by
      obtain ⟨vs, xs, g1, g2, g3⟩ := h (i + 1) y (by simpa using hy)
      exact ⟨vs, xs, g1, by rw [show k + 1 + i = k + (i + 1) by omega]; exact g2, g3⟩
    obtain ⟨g1, g2⟩ := OkE.cons_mk hag e4 f5
    refine ⟨mkE ag xs :: l, vs ++ us, by simp [f1], ?_, ?_, ?_, g1⟩
    · intro d hd
      rcases List.mem_cons.1 hd with rfl | hd
      · rw [g2, e4.length, hsz]
      · exact f2 d hd
    · refine CellsAt.app (by simpa using e2) ?_
      rw [e1, show off + k * sz + sz = off + (k + 1) * sz by rw [Nat.add_mul]; omega]
      exact f3
    · rw [List.flatMap_cons, g2]; exact e3.append f4

/-- A reading has a tree. -/
theorem rd_trod {H : Type} {enc : TypeId × Value → H} {sp : Nat → Bool} {B : DataW H → Nat} (hB : BulkLike B) : ∀ (n fuel t : Nat) (cs : List Value) (d : DataW H) (ps : List MemPlace) (ag : Bool) (ts : List CT),
    ctOf P n t = some (ag, ts) → DataW.trod enc P W 0 sp true fuel t cs = some (d, ps) → B d ≤ N → ∃ xs, RdL W G0 cs xs ∧ OkL N ts xs ∧ ∀ v, v ∈ cs → v.oneCell' = true := by
  intro n
  induction n with
  | zero => intro fuel t cs d ps ag ts h; simp [ctOf] at h
  | succ n ih =>
    intro fuel t cs d ps ag ts h1 h2 hN
    cases fuel with
    | zero => simp [DataW.trod] at h2
    | succ fuel =>
      simp only [ctOf] at h1
      split at h1
      · rename_i hu
        simp only [Option.some.injEq, Prod.mk.injEq] at h1
        obtain ⟨rfl, rfl⟩ := h1
        obtain ⟨b, rfl, _⟩ := DataW.trod_bool hu h2
        exact ⟨_, .cons _ _ _ _ (.bool _) .nil, .cons _ _ _ _ (.bool _) .nil, by simp [Value.oneCell']⟩
      · rename_i k hu
        simp only [Option.some.injEq, Prod.mk.injEq] at h1
        obtain ⟨rfl, rfl⟩ := h1
        obtain ⟨m, rfl, _, hw⟩ := DataW.trod_int hu h2
        simp only [Lit.wf, Bool.and_eq_true, decide_eq_true_eq] at hw
        exact ⟨_, .cons _ _ _ _ (.int _ _) .nil, .cons _ _ _ _ (.int _ _ hw.1 hw.2) .nil, by simp [Value.oneCell']⟩
      · rename_i hu
        simp only [Option.some.injEq, Prod.mk.injEq] at h1
        obtain ⟨rfl, rfl⟩ := h1
        obtain ⟨m, rfl, he, _⟩ := DataW.trod_string hu h2
        simp only [Prod.mk.injEq] at he
        obtain ⟨rfl, rfl⟩ := he
        exact ⟨_, .cons _ _ _ _ (.str _ _ rfl) .nil, .cons _ _ _ _ (.str _ (Nat.le_trans (hB.str _) hN)) .nil, by simp [Value.oneCell']⟩
      · rename_i e hu
        split at h1
        · rename_i ag2 ts2 he
          split at h1
          · rename_i hc
            simp only [Option.some.injEq, Prod.mk.injEq] at h1
            obtain ⟨rfl, rfl⟩ := h1
            have hag : ag2 = false → ∃ t, ts2 = [t] := fun h => by subst h; exact ctOf_one he
            rcases DataW.trod_slice hu h2 with ⟨rfl, _⟩ | ⟨a, len, cap, elems, rest, n', hf, rfl, hd, _, hlc, _, hlen, hel, _, _⟩
            · exact ⟨_, .cons _ _ _ _ (.list0 _ _ _) .nil, .cons _ _ _ _ (.list _ _ _ (Nat.zero_le _) (.nil _ _)) .nil, by simp [Value.oneCell']⟩
            · simp only [Prod.mk.injEq] at hd
              obtain ⟨rfl, _⟩ := hd
              cases hf
              have hs := hB.slice (elems.map (·.1)) (rest.map (·.1))
              rcases Nat.eq_zero_or_pos len with h0 | h0
              · subst h0
                exact ⟨_, .cons _ _ _ _ (.list0 _ _ ts2.length) .nil, .cons _ _ _ _ (.list _ _ _ (Nat.zero_le _) (.nil _ _)) .nil, by simp [Value.oneCell']⟩
              · obtain ⟨b, off, spot⟩ := a
                have hspot : spot = none := by
                  have := hel 0 h0
                  rw [List.getElem?_eq_getElem (by omega), Option.bind_eq_some_iff] at this
                  obtain ⟨vs, hvs, _⟩ := this
                  obtain ⟨_, hl, hcc⟩ := World.cells?_some hvs
                  have h1 := hcc 0 (by rw [hc.1]; exact hc.2)
                  rw [List.getElem?_eq_getElem (by rw [hl, hc.1]; exact hc.2)] at h1
                  simp only [Nat.zero_mul, Addr.add, if_true] at h1
                  unfold World.cell? at h1
                  split at h1
                  · cases spot with
                    | none => rfl
                    | some q => simp at h1
                  · simp at h1
                subst hspot
                obtain ⟨l, vs, f1, f2, f3, f4, f5⟩ := rd_elems (W := W) (N := N) (off := off) (b := b) (ys := elems) (k := 0) (sz := ts2.length) rfl hag fun i y hy => by
                  have hi : i < len := by
                    rw [← hlen]
                    rcases Nat.lt_or_ge i elems.length with h | h
                    · exact h
                    · rw [List.getElem?_eq_none h] at hy; simp at hy
                  have := hel i hi
                  rw [hy, Option.bind_eq_some_iff] at this
                  obtain ⟨us, hus, ht⟩ := this
                  obtain ⟨d, ps⟩ := y
                  obtain ⟨xs, e1, e2, e3⟩ := ih _ _ _ _ _ _ _ he ht (Nat.le_trans (hs.2 d (List.mem_map.2 ⟨(d, ps), List.mem_of_getElem? hy, rfl⟩)) hN)
                  rw [hc.1] at hus
                  have hadd : (⟨b, off, none⟩ : Addr).add (i * ts2.length) = ⟨b, off + i * ts2.length, none⟩ := by
                    unfold Addr.add
                    split
                    · rename_i h; rw [h]; rfl
                    · rfl
                  rw [hadd] at hus
                  obtain ⟨c1, c2⟩ := cellsAt_of hus e3
                  exact ⟨us, xs, c1, by rw [Nat.zero_add]; exact c2, e1, e2⟩
                rw [Nat.zero_mul, Nat.add_zero] at f3
                rw [hlen] at f1
                exact ⟨_, .cons _ _ _ _ (.list b off len cap ts2.length l vs f1.symm hlc f2 f3 f4) .nil,
                  .cons _ _ _ _ (.list _ _ _ (by rw [f1, ← hlen]; have := hs.1; rw [List.length_map] at this; exact Nat.le_trans this hN) f5) .nil, by simp [Value.oneCell']⟩
          · simp at h1
        · simp at h1
      · rename_i fs hu
        split at h1
        · rename_i ts2 he
          split at h1
          · rename_i hc
            simp only [Option.some.injEq, Prod.mk.injEq] at h1
            obtain ⟨rfl, rfl⟩ := h1
            unfold DataW.trod at h2
            simp only [hu] at h2
            split at h2
            · rename_i hl
              simp only [Option.map_eq_some_iff, Prod.mk.injEq] at h2
              obtain ⟨ys, hy, rfl, rfl⟩ := h2
              obtain ⟨xs, e1, e2, e3⟩ := rd_fields (B := B) (f := fun f cs => DataW.trod enc P W 0 sp true fuel f.type cs) (off := 0) he hy (fun y hy => Nat.le_trans (hB.agg _ _ (List.mem_map_of_mem hy)) hN)
                (fun x _ cs d ps ag ts h1 h2 h3 => ih fuel _ cs d ps ag ts h1 h2 h3)
              rw [List.drop_zero, List.take_of_length_le (by rw [hl, hc]; exact Nat.le_refl _)] at e1 e3
              exact ⟨xs, e1, e2, e3⟩
            · simp at h2
          · simp at h1
        · simp at h1
      · simp at h1

end
end Go.Vm
end

section
/- From a law's contract to its row. Conditions: none. -/
namespace Go.Vm

section
variable {P : Program} {W : World} {N : Nat}

/-- An argument has a tree. -/
theorem rd_arg {H : Type} {enc : TypeId × Value → H} {sp : Nat → Bool} {B : DataW H → Nat} (hB : BulkLike B) {n base t : Nat} {v : Value} {d : DataW H} {ps : List MemPlace} {ag : Bool} {ts : List CT}
    (ht : ctOf P n t = some (ag, ts)) (hval : Value.okWide P W .any base t v) (hd : DataW.Trod enc P W 0 sp true t v d ps) (hN : B d ≤ N) : ∃ xs, Rd W G0 v (mkE ag xs) ∧ OkL N ts xs := by
  obtain ⟨fuel, hf⟩ := hd
  obtain ⟨xs, h1, h2, h3⟩ := rd_trod hB n fuel t _ _ _ _ _ ht hf hN
  refine ⟨xs, ?_, h2⟩
  cases n with
  | zero => simp [ctOf] at ht
  | succ n =>
    have hag : ag = false → v.cells.toList = [v] → Rd W G0 v (mkE ag xs) := by
      intro ha hv
      subst ha
      rw [hv] at h1
      cases h1 with
      | cons _ x _ xs h1 h3 => cases h3; exact h1
    simp only [ctOf] at ht
    unfold Value.okWide at hval
    split at ht
    · rename_i hu
      simp only [Option.some.injEq, Prod.mk.injEq] at ht
      rw [hu] at hval
      refine hag ht.1.symm ?_
      simp only [Cell.okWide, hu] at hval
      cases v <;> simp [Cell.ok, hu] at hval <;> rfl
    · rename_i hu
      simp only [Option.some.injEq, Prod.mk.injEq] at ht
      rw [hu] at hval
      refine hag ht.1.symm ?_
      simp only [Cell.okWide, hu] at hval
      cases v <;> simp [Cell.ok, hu] at hval <;> rfl
    · rename_i hu
      simp only [Option.some.injEq, Prod.mk.injEq] at ht
      rw [hu] at hval
      refine hag ht.1.symm ?_
      simp only [Cell.okWide, hu] at hval
      cases v <;> simp [Cell.ok, hu] at hval <;> rfl
    · rename_i e hu
      split at ht
      · split at ht
        · simp only [Option.some.injEq, Prod.mk.injEq] at ht
          rw [hu] at hval
          refine hag ht.1.symm ?_
          simp only [Cell.okWide, hu] at hval
          cases v <;> simp [Cell.ok, hu] at hval <;> rfl
        · simp at ht
      · simp at ht
    · rename_i fs hu
      split at ht
      · split at ht
        · simp only [Option.some.injEq, Prod.mk.injEq] at ht
          rw [hu] at hval
          simp only at hval
          obtain ⟨cs, rfl, _⟩ := hval
          rw [← ht.1]
          exact .agg _ _ h1
        · simp at ht
      · simp at ht
    · simp at ht

theorem keeps_all {W W' : World} {G' : Gh} (h : Good W G0 W' G') : ∀ i, i < W.heap.size → W'.heap[i]? = W.heap[i]? := fun i hi => (h.imm i hi (.inl rfl)).1

theorem keptBut_of {W W' : World} {G' : Gh} {may : MemPlace → Prop} (h : Good W G0 W' G') : W.keptBut W' may := by
  refine ⟨h.os, h.out, fun i hi => ?_⟩
  rw [keeps_all h i hi]
  cases W.heap[i]? with
  | none => rfl
  | some o => cases o <;> simp

/-- A listed table of integers: its cells. -/
def GlobalsAre (W : World) (gl : Nat → List D) : Prop := ∀ g, ∃ vs, CellsAt W G0 g 0 vs ∧ RdL W G0 vs (gl g)

theorem relG_of {gl : Nat → List D} (h : GlobalsAre W gl) : RelG gl W G0 := by
  intro g
  obtain ⟨vs, h1, h2⟩ := h g
  have := Rd.iptr g 0 0 vs _ h1 h2
  simpa using this

/-- Arguments of their kinds. -/
inductive OkA (N : Nat) : List (Bool × List CT) → List Val → Prop
  | nil : OkA N [] []
  | cons (ag : Bool) (ts : List CT) (xs : List D) (tys : List (Bool × List CT)) (ars : List Val) : OkL N ts xs → OkA N tys ars → OkA N ((ag, ts) :: tys) (.d (mkE ag xs) :: ars)

theorem rd_args {H : Type} {enc : TypeId × Value → H} {sp : Nat → Bool} {B : DataW H → Nat} (hB : BulkLike B) {n base : Nat} : ∀ {ts : List Nat} {vs : List Value} {ds : List (DataW H)} {ps : List MemPlace} {tys : List (Bool × List CT)},
    ts.mapM (ctOf P n) = some tys → (∀ (j : Nat) t v, ts[j]? = some t → vs[j]? = some v → Value.okWide P W .any base t v) → DataW.TrodAll enc P W 0 sp true ts vs ds ps → (∀ d, d ∈ ds → B d ≤ N) →
    ∃ ars, OkA N tys ars ∧ RelL W G0 [] vs ars ∧ ds.length = ts.length
  | [], vs, ds, ps, tys, h1, h2, h3, h4 => by
    simp only [List.mapM_nil, Option.pure_def, Option.some.injEq] at h1
    subst h1
    cases vs with
    | nil => cases ds with
      | nil => exact ⟨[], .nil, .nil, rfl⟩
      | cons _ _ => exact h3.elim
    | cons _ _ => exact h3.elim
  | t :: ts, vs, ds, ps, tys, h1, h2, h3, h4 => by
    simp only [List.mapM_cons, Option.bind_eq_bind, Option.bind_eq_some_iff, Option.pure_def, Option.some.injEq] at h1
    obtain ⟨⟨ag, cts⟩, hc, tys', ht, rfl⟩ := h1
    cases vs with
    | nil => exact h3.elim
    | cons v vs => cases ds with
      | nil => exact h3.elim
      | cons d ds =>
        obtain ⟨p, q, e1, e2, _⟩ := h3
        obtain ⟨xs, f1, f2⟩ := rd_arg hB hc (h2 0 t v rfl rfl) e1 (h4 d (by simp))
        obtain ⟨ars, g1, g2, g3⟩ := rd_args hB ht (fun j t v ht hv => h2 (j + 1) t v (by simpa using ht) (by simpa using hv)) e2 (fun d hd => h4 d (by simp [hd]))
        exact ⟨_, .cons _ _ _ _ _ f2 g1, .cons _ _ _ _ (.d _ _ f1) g2, by simp [g3]⟩

theorem same_all {W W' : World} {G' : Gh} (h : Good W G0 W' G') {p : MemPlace} (hp : p.block < W.heap.size) : W.sameAt W' p := by
  cases p with
  | cell b o => exact World.cell?_of_block (w := W) (keeps_all h b hp)
  | map b => exact keeps_all h b hp

theorem trodAll_stays {H : Type} {enc : TypeId × Value → H} {W W' : World} {G' : Gh} (hl : laidOutB P = true) (h : Good W G0 W' G') : ∀ {ts : List Nat} {vs : List Value} {ds : List (DataW H)} {ps : List MemPlace},
    (∀ t, t ∈ ts → P.readableRec t = true ∧ t < P.types.size) → DataW.TrodAll enc P W 0 (fun _ => true) true ts vs ds ps → (∀ x, x ∈ ps → x.block < W.heap.size) → DataW.TrodAll enc P W' 0 (fun b => decide (b < W.heap.size)) true ts vs ds ps
  | [], vs, ds, ps, _, h2, _ => by
    cases vs with
    | nil => cases ds with
      | nil => exact h2
      | cons _ _ => exact h2.elim
    | cons _ _ => exact h2.elim
  | t :: ts, vs, ds, ps, h1, h2, h3 => by
    cases vs with
    | nil => exact h2.elim
    | cons v vs => cases ds with
      | nil => exact h2.elim
      | cons d ds =>
        obtain ⟨p, q, e1, e2, rfl⟩ := h2
        obtain ⟨r1, r2⟩ := h1 t (by simp)
        exact ⟨p, q, WideElems.Trod_stays hl r1 r2 e1 (fun x hx => same_all h (h3 x (by simp [hx]))) (fun x hx => by simpa using h3 x (by simp [hx])),
          trodAll_stays hl h (fun t ht => h1 t (by simp [ht])) e2 (fun x hx => h3 x (by simp [hx])), rfl⟩

/-- A law's contract, of what the machine computes. -/
theorem contract_law {H : Type} {enc : TypeId × Value → H} {spec : ChangeSpec} {fn : Func} {f tb n base : Nat} {gl : Nat → List D} {B : DataW H → Nat} (hB : BulkLike B) {tys : List (Bool × List CT)} {args : Array Value} {ds gs : List (DataW H)} {before : List MemPlace}
    (hvars : spec.vars = []) (hfn : ds.length = fn.params.size → spec.fn H (ds ++ gs) = { results := [.lit (.bool true)], args := ds })
    (hres : fn.resultTypes = #[tb]) (hb : P.underlying tb = some .bool) (hl : laidOutB P = true) (hr : (fn.params.toList.all fun t => P.readableRec t && decide (t < P.types.size)) = true)
    (hty : fn.params.toList.mapM (ctOf P n) = some tys) (hgl : GlobalsAre W gl)
    (hval : ∀ (j : Nat) t v, fn.params[j]? = some t → args[j]? = some v → Value.okWide P W .any base t v)
    (hW : DataW.Whole enc P fn.params.toList spec.vars false W args.toList ds gs before) (hN : ∀ d, d ∈ ds → B d ≤ N)
    (hwalk : ∀ ars, OkA N tys ars → VEv P gl f ars [] (.d (.bool true)) []) :
    Calls P f args W fun e W' => ∃ v, e = .returned v ∧ spec.post enc P fn false true false false W args v W' := by
  have hW' := hW
  obtain ⟨p, q, hA, hV, rfl, hfz, hnd⟩ := hW
  obtain ⟨ars, ha, hrel, hlen⟩ := rd_args hB hty (fun j t v ht hv => hval j t v (by simpa using ht) (by simpa using hv)) hA hN
  obtain ⟨_, hev⟩ := hwalk ars ha
  have hargs : args = ⟨args.toList⟩ := by cases args; rfl
  have hc := hev W G0 [] args.toList ⟨rfl, fun i b o h => by simp at h⟩ (relG_of hgl) (fun b L n h => by simp [G0] at h) hrel
  rw [← hargs] at hc
  refine hc.mono ?_
  rintro e W' ⟨v, G', ρ', rfl, hv, _, _, hg, _⟩
  have hvb : v = .bool true := by
    have hA : RelA W' G' ρ' v (.d (.bool true)) := hv
    cases hA with
    | d _ _ h => cases h; rfl
  subst hvb
  rw [hvars] at hV
  obtain ⟨rfl, rfl⟩ := ChangeShapes.trodVars_none hV
  have hf := hfn (by simpa using hlen)
  refine ⟨_, rfl, ds, [], p ++ [], [], p, [], hW', ?_, ?_, ?_, keptBut_of hg, fun h => by cases h⟩
  · rw [hf]
    have hs : fn.resultTypes.size = 1 := by rw [hres]; rfl
    rw [hs, hres]
    exact ChangeShapes.trodAll_mk1 (RowKit.shut_bool hb true)
  · rw [hf]
    refine trodAll_stays hl hg (fun t ht => ?_) hA (fun x hx => hW'.lt x (by simp [hx]))
    have := List.all_eq_true.1 hr t ht
    simpa using this
  · rw [hf, hvars]
    rfl

end
end Go.Vm
end

section
/- What a listed package variable holds, read as the machine's data. Conditions: none. -/
namespace Go.Vm

/-- A listed map's entry. -/
def litE (x : Lit × DataW Unit) : Option (List UInt8 × D) := match x with
  | (.string b, .lit (.int k z)) => some (b, .int k z)
  | _ => none

def nodupS : List (List UInt8) → Bool
  | [] => true
  | a :: l => !l.contains a && nodupS l

/-- A listed datum, as cells. -/
def litD (P : Program) : Nat → Nat → DataW Unit → Option (List D)
  | 0, _, _ => none
  | n + 1, t, d => match P.underlying t, d with
    | some (.int _), .lit (.int k z) => some [.int k z]
    | some .string, .lit (.string b) => some [.str b]
    | some (.array m e), .agg ps => cond (Nat.beq (P.cellsOf t) (m * P.cellsOf e)) ((ps.mapM (litD P n e)).bind fun l => cond (l.all fun x => Nat.beq x.length (P.cellsOf e)) (some l.flatten) none) none
    | some (.interface _), .iface _ _ => some [.anyi]
    | some (.map k e), .map es => match P.underlying k, P.underlying e with
      | some .string, some (.int _) => (es.mapM litE).bind fun l => cond (nodupS (l.map (·.1))) (some [.imap (l.map fun x => .str x.1) (l.map (·.2))]) none
      | _, _ => none
    | _, _ => none

/-! ### Maps in another order -/

abbrev pairE (l : List (List UInt8 × D)) : List (D × Val) := zipE (l.map fun x => .str x.1) (l.map (·.2))

theorem pairE_cons (x : List UInt8 × D) (l : List (List UInt8 × D)) : pairE (x :: l) = (.str x.1, .d x.2) :: pairE l := rfl

theorem eqK_strs (ag : Bool) (kk : List Nat) (k : D) : (∀ s, cond (isAg ag (.str s)) (eqK kk k.cells [.str s]) none = none) ∨ ∃ s0, ∀ s, isAg ag (.str s) = true ∧ eqK kk k.cells [.str s] = some (decide (s0 = s)) := by
  cases ag with
  | true => exact .inl fun s => rfl
  | false =>
    match kk, k.cells with
    | [], [] => exact .inl fun s => rfl
    | [], _ :: _ => exact .inl fun s => rfl
    | _ :: _, [] => exact .inl fun s => by simp [eqK]
    | [2], [.str p] => exact .inr ⟨p, fun s => ⟨rfl, by simp [eqK]⟩⟩
    | [2], .str p :: a :: l => exact .inl fun s => by simp [isAg, eqK]
    | 2 :: a :: l, .str p :: m => refine .inl fun s => by simp [isAg, eqK]
    | 0 :: l, a :: m => exact .inl fun s => by cases a <;> simp [isAg, eqK]
    | 1 :: l, a :: m => exact .inl fun s => by cases a <;> simp [isAg, eqK]
    | (n + 3) :: l, a :: m => exact .inl fun s => by cases a <;> simp [isAg, eqK]
    | 2 :: l, .bool _ :: m | 2 :: l, .int _ _ :: m | 2 :: l, .list _ _ :: m | 2 :: l, .agg _ :: m | 2 :: l, .nilp :: m | 2 :: l, .nilm :: m | 2 :: l, .nilf :: m | 2 :: l, .nili :: m | 2 :: l, .fn _ :: m | 2 :: l, .iptr _ _ :: m | 2 :: l, .iface _ _ :: m
    | 2 :: l, .imap _ _ :: m | 2 :: l, .anyi :: m => exact .inl fun s => by simp [isAg, eqK]

theorem findK_none {ag : Bool} {kk : List Nat} {k : D} (h : ∀ s, cond (isAg ag (.str s)) (eqK kk k.cells [.str s]) none = none) (x : List UInt8 × D) (l : List (List UInt8 × D)) (i : Nat) : findK ag kk k (pairE (x :: l)) i = none := by
  rw [pairE_cons]
  have := h x.1
  simp only [findK]
  cases hb : isAg ag (.str x.1) with
  | false => rfl
  | true =>
    rw [hb] at this
    simp only [cond_true] at this
    have hc : (D.str x.1).cells = [.str x.1] := rfl
    simp only [cond_true, hc, this]

theorem findK_some {ag : Bool} {kk : List Nat} {k : D} {s0 : List UInt8} (h : ∀ s, isAg ag (.str s) = true ∧ eqK kk k.cells [.str s] = some (decide (s0 = s))) : ∀ (l : List (List UInt8 × D)) (i : Nat),
    (findK ag kk k (pairE l) i = some none ∧ ∀ x, x ∈ l → x.1 ≠ s0) ∨ ∃ j x, findK ag kk k (pairE l) i = some (some (i + j)) ∧ l[j]? = some x ∧ x.1 = s0
  | [], i => .inl ⟨rfl, by simp⟩
  | x :: l, i => by
    rw [pairE_cons]
    obtain ⟨h1, h2⟩ := h x.1
    have hc : (D.str x.1).cells = [.str x.1] := rfl
    simp only [findK, h1, cond_true, hc, h2]
    by_cases hx : s0 = x.1
    · simp only [hx, decide_true]
      exact .inr ⟨0, x, rfl, rfl, rfl⟩
    · simp only [hx, decide_false]
      rcases findK_some h l (i + 1) with ⟨e1, e2⟩ | ⟨j, y, e1, e2, e3⟩
      · refine .inl ⟨e1, fun y hy => ?_⟩
        rcases List.mem_cons.1 hy with rfl | hy
        · exact fun e => hx e.symm
        · exact e2 y hy
      · exact .inr ⟨j + 1, y, by rw [e1]; congr 2; omega, by simpa using e2, e3⟩

theorem nodupS_get : ∀ {l : List (List UInt8 × D)}, nodupS (l.map (·.1)) = true → ∀ {x y : List UInt8 × D}, x ∈ l → y ∈ l → x.1 = y.1 → x = y
  | [], _, x, y, hx, _, _ => by simp at hx
  | a :: l, h, x, y, hx, hy, e => by
    simp only [List.map_cons, nodupS, Bool.and_eq_true, Bool.not_eq_true'] at h
    have hna : ∀ z, z ∈ l → z.1 ≠ a.1 := fun z hz he => by
      have : (l.map (·.1)).contains a.1 = true := by simpa using ⟨z.2, by rw [← he]; exact hz⟩
      rw [this] at h
      simp at h
    rcases List.mem_cons.1 hx with hx | hx <;> rcases List.mem_cons.1 hy with hy | hy
    · rw [hx, hy]
    · exact absurd (by rw [← e, hx]) (hna y hy)
    · exact absurd (by rw [e, hy]) (hna x hx)
    · exact nodupS_get h.2 hx hy e

theorem sameMap_perm {l m : List (List UInt8 × D)} (hp : ∀ x, x ∈ m ↔ x ∈ l) (hn : nodupS (l.map (·.1)) = true) : SameMap (m.map fun x => .str x.1) (m.map (·.2)) (l.map fun x => .str x.1) (l.map (·.2)) := by
  intro ag kk k
  rcases eqK_strs ag kk k with h | ⟨s0, h⟩
  · cases l with
    | nil =>
      have : m = [] := List.eq_nil_iff_forall_not_mem.2 fun x hx => by have := (hp x).1 hx; simp at this
      subst this
      exact ⟨fun h => h, fun j d hj _ => by simp [zipE, findK] at hj⟩
    | cons x l =>
      have hf := findK_none (k := k) h x l 0
      exact ⟨fun h' => by rw [hf] at h'; simp at h', fun j d hj _ => by rw [hf] at hj; simp at hj⟩
  · have hl := findK_some h l 0
    have hm := findK_some h m 0
    refine ⟨fun h' => ?_, fun j d hj hd => ?_⟩
    · rcases hl with ⟨_, e2⟩ | ⟨j, x, e1, _, _⟩
      · rcases hm with ⟨e3, _⟩ | ⟨j, x, _, e3, e4⟩
        · exact e3
        · exact absurd e4 (e2 x ((hp x).1 (List.mem_of_getElem? e3)))
      · rw [h'] at e1; simp at e1
    · rcases hl with ⟨e1, _⟩ | ⟨j', x, e1, e2, e3⟩
      · rw [hj] at e1; simp at e1
      · rw [hj] at e1
        simp only [Option.some.injEq, Nat.zero_add] at e1
        subst e1
        rw [List.getElem?_map, e2] at hd
        simp only [Option.map_some, Option.some.injEq] at hd
        have hxm := (hp x).2 (List.mem_of_getElem? e2)
        rcases hm with ⟨_, e4⟩ | ⟨j2, y, e4, e5, e6⟩
        · exact absurd e3 (e4 x hxm)
        · refine ⟨j2, by simpa using e4, ?_⟩
          have : y = x := nodupS_get hn ((hp y).1 (List.mem_of_getElem? e5)) (List.mem_of_getElem? e2) (by rw [e6, e3])
          rw [List.getElem?_map, e5, this, Option.map_some, hd]

theorem insert_mem {H : Type} (x : Lit × DataW H) : ∀ (l : List (Lit × DataW H)) (y : Lit × DataW H), y ∈ DataW.insert x l ↔ y = x ∨ y ∈ l
  | [], y => by simp [DataW.insert]
  | z :: l, y => by
    simp only [DataW.insert]
    split
    · simp
    · simp only [List.mem_cons, insert_mem x l y]
      constructor
      · rintro (h | h | h) <;> simp [h]
      · rintro (h | h | h) <;> simp [h]

theorem sorted_mem {H : Type} : ∀ (l : List (Lit × DataW H)) (y : Lit × DataW H), y ∈ l.foldr DataW.insert [] ↔ y ∈ l
  | [], y => by simp
  | x :: l, y => by rw [List.foldr_cons, insert_mem, sorted_mem l y]; simp

def litG (x : Lit × DataW Unit) : List UInt8 × D := match x with
  | (.string b, .lit (.int k z)) => (b, .int k z)
  | _ => ([], .nilp)

theorem litE_G {x : Lit × DataW Unit} {y : List UInt8 × D} (h : litE x = some y) : litG x = y := by
  unfold litE at h
  split at h
  · simpa [litG] using h
  · simp at h

theorem mapM_G : ∀ {l : List (Lit × DataW Unit)} {r : List (List UInt8 × D)}, l.mapM litE = some r → l.map litG = r
  | [], r, h => by simpa using h
  | x :: l, r, h => by
    simp only [List.mapM_cons, Option.bind_eq_bind, Option.bind_eq_some_iff, Option.pure_def, Option.some.injEq] at h
    obtain ⟨b, hb, r', hr', rfl⟩ := h
    rw [List.map_cons, litE_G hb, mapM_G hr']

section
variable {P : Program} {W : World}

theorem key_str {k : Nat} {v : Value} {key : Lit} (hk : P.underlying k = some .string) (h : keyOf P k v = some key) : ∃ s : ByteArray, v = .string s ∧ key = .string s.data.toList := by
  unfold keyOf at h
  rw [hk] at h
  cases v <;> simp [mapKey, hk] at h
  exact ⟨_, rfl, h.2.symm⟩

theorem val_int {e : Nat} {v : Value} {kd k : IntKind} {n : Int} (he : P.underlying e = some (.int kd)) (hf : v.formed P e = true) (hc : v.cells.toList = [.int k n]) : v = .int k n := by
  cases v <;> simp_all [Value.formed, Value.cells]

theorem rd_map {k e b fuel : Nat} {kd : IntKind} {enc : TypeId × Value → Unit} {sp : Nat → Bool} {es : List (Lit × DataW Unit)} {ps : List MemPlace} {l : List (List UInt8 × D)} (hk : P.underlying k = some .string) (he : P.underlying e = some (.int kd)) {E : Array MapEntry} {clock : Nat}
    (hb : W.heap[b]? = some (.map E clock))
    (h1 : ((E.toList.mapM fun x => (keyOf P k x.key).bind fun key => if x.val.formed P e then (DataW.trod enc P W 0 sp false fuel e x.val.cells.toList).map fun y => ((key, y.1), y.2) else none).bind fun entries =>
      let sorted := (entries.map (·.1)).foldr DataW.insert []
      if DataW.rising sorted then some (DataW.map sorted, MemPlace.map b :: entries.flatMap (·.2)) else none) = some (.map es, ps))
    (hl : es.mapM litE = some l) (hn : nodupS (l.map (·.1)) = true) : Rd W G0 (.map (some b)) (.imap (l.map fun x => .str x.1) (l.map (·.2))) := by
  obtain ⟨entries, hm, h2⟩ := Option.bind_eq_some_iff.1 h1
  simp only at h2
  split at h2
  · simp only [Option.some.injEq, Prod.mk.injEq, DataW.map.injEq] at h2
    have hel : entries.length = E.toList.length := Lib.mapM_length hm
    have key : ∀ (j : Nat) (x : MapEntry), E.toList[j]? = some x → ∃ (s : ByteArray) (q : IntKind) (n : Int), x.key = .string s ∧ x.val = .int q n ∧ ((entries.map (·.1)).map litG)[j]? = some (s.data.toList, .int q n) := by
      intro j x hx
      obtain ⟨y, hy1, hy2⟩ := Lib.mapM_at hm j x hx
      obtain ⟨ky, hy3, hy4⟩ := Option.bind_eq_some_iff.1 hy2
      obtain ⟨s, hs1, rfl⟩ := key_str hk hy3
      split at hy4
      · rename_i hf
        obtain ⟨z, hz1, rfl⟩ := Option.map_eq_some_iff.1 hy4
        obtain ⟨n, hc, rfl, _⟩ := DataW.trod_int he hz1
        exact ⟨s, kd, n, hs1, val_int he hf hc, by simp [List.getElem?_map, hy1, litG]⟩
      · simp at hy4
    have hsm : SameMap (((entries.map (·.1)).map litG).map fun x => .str x.1) (((entries.map (·.1)).map litG).map (·.2)) (l.map fun x => .str x.1) (l.map (·.2)) := by
      refine sameMap_perm (fun x => ?_) hn
      rw [← mapM_G hl, ← h2.1]
      simp only [List.mem_map]
      constructor
      · rintro ⟨y, ⟨z, hz, rfl⟩, rfl⟩
        exact ⟨z.1, (sorted_mem _ _).2 (List.mem_map_of_mem hz), rfl⟩
      · rintro ⟨y, hy, rfl⟩
        have := (sorted_mem _ _).1 hy
        obtain ⟨z, hz, rfl⟩ := List.mem_map.1 this
        exact ⟨z.1, ⟨z, hz, rfl⟩, rfl⟩
    refine .imap b (E.toList.map (·.key)) (E.toList.map (·.val)) _ _ _ _ ⟨rfl, E, clock, hb, rfl, rfl⟩ (.mk (by simp [hel]) fun j v x hv hx => ?_) (.mk (by simp [hel]) fun j v x hv hx => ?_) hsm
    · rw [List.getElem?_map, Option.map_eq_some_iff] at hv hx
      obtain ⟨y, hy, rfl⟩ := hv
      obtain ⟨z, hz, rfl⟩ := hx
      obtain ⟨s, q, n, e1, e2, e3⟩ := key j y hy
      rw [hz] at e3
      obtain rfl := Option.some.inj e3
      rw [e1]
      exact .str _ _ rfl
    · rw [List.getElem?_map, Option.map_eq_some_iff] at hv hx
      obtain ⟨y, hy, rfl⟩ := hv
      obtain ⟨z, hz, rfl⟩ := hx
      obtain ⟨s, q, n, e1, e2, e3⟩ := key j y hy
      rw [hz] at e3
      obtain rfl := Option.some.inj e3
      rw [e2]
      exact .int _ _
  · simp at h2

theorem rdL_flatten (sz : Nat) : ∀ (l : List (List D)) (cs : List Value), cs.length = l.length * sz → (∀ x, x ∈ l → x.length = sz) → (∀ (i : Nat) x, l[i]? = some x → RdL W G0 ((cs.drop (i * sz)).take sz) x ∧ ∀ v, v ∈ (cs.drop (i * sz)).take sz → v.oneCell' = true) → RdL W G0 cs l.flatten ∧ ∀ v, v ∈ cs → v.oneCell' = true
  | [], cs, h, _, _ => by
    have : cs = [] := by simpa using h
    subst this
    exact ⟨.nil, by simp⟩
  | x :: l, cs, h, hx, hr => by
    have h0 := hr 0 x rfl
    simp only [Nat.zero_mul, List.drop_zero] at h0
    have hl : (cs.drop sz).length = l.length * sz := by
      rw [List.length_drop, h, List.length_cons, Nat.add_mul]; omega
    have ih := rdL_flatten sz l (cs.drop sz) hl (fun y hy => hx y (by simp [hy])) (fun i y hy => by
      have := hr (i + 1) y (by simpa using hy)
      rw [Nat.add_mul, Nat.one_mul, Nat.add_comm, ← List.drop_drop] at this
      exact this)
    have hcs : cs = cs.take sz ++ cs.drop sz := (List.take_append_drop sz cs).symm
    rw [List.flatten_cons]
    refine ⟨?_, fun v hv => ?_⟩
    · rw [hcs]
      exact h0.1.append ih.1
    · rw [hcs, List.mem_append] at hv
      rcases hv with hv | hv
      · exact h0.2 v hv
      · exact ih.2 v hv

theorem rd_lit {enc : TypeId × Value → Unit} {sp : Nat → Bool} : ∀ (n fuel t : Nat) (cs : List Value) (d : DataW Unit) (ps : List MemPlace) (ds : List D),
    DataW.trod enc P W 0 sp false fuel t cs = some (d, ps) → litD P n t d = some ds → RdL W G0 cs ds ∧ ∀ v, v ∈ cs → v.oneCell' = true := by
  intro n
  induction n with
  | zero => intro fuel t cs d ps ds _ h; simp [litD] at h
  | succ n ih =>
    intro fuel t cs d ps ds h1 h2
    cases fuel with
    | zero => simp [DataW.trod] at h1
    | succ fuel =>
      simp only [litD] at h2
      split at h2
      · rename_i k0 k z hu
        obtain ⟨m, rfl, he, _⟩ := DataW.trod_int hu h1
        simp only [Prod.mk.injEq, DataW.lit.injEq, Lit.int.injEq] at he
        obtain ⟨⟨rfl, rfl⟩, _⟩ := he
        simp only [Option.some.injEq] at h2
        subst h2
        exact ⟨.cons _ _ _ _ (.int _ _) .nil, by simp [Value.oneCell']⟩
      · rename_i b hu
        obtain ⟨m, rfl, he, _⟩ := DataW.trod_string hu h1
        simp only [Prod.mk.injEq, DataW.lit.injEq, Lit.string.injEq] at he
        obtain ⟨rfl, _⟩ := he
        simp only [Option.some.injEq] at h2
        subst h2
        exact ⟨.cons _ _ _ _ (.str _ _ rfl) .nil, by simp [Value.oneCell']⟩
      · rename_i m e pl hu
        cases hb : Nat.beq (P.cellsOf t) (m * P.cellsOf e) with
        | false => rw [hb] at h2; simp at h2
        | true =>
          rw [hb] at h2
          have hb := Nat.eq_of_beq_eq_true hb
          simp only [cond_true, Option.bind_eq_some_iff] at h2
          obtain ⟨l, hl, h2⟩ := h2
          cases hall : (l.all fun x => Nat.beq x.length (P.cellsOf e)) with
          | false => rw [hall] at h2; simp at h2
          | true =>
            rw [hall] at h2
            simp only [cond_true, Option.some.injEq] at h2
            subst h2
            simp only [DataW.trod, hu] at h1
            split at h1
            · rename_i hcl
              obtain ⟨xs, hm, hx⟩ := Option.map_eq_some_iff.1 h1
              have hpl : xs.map (·.1) = pl := by simpa using congrArg Prod.fst hx
              have hxl : xs.length = m := by simpa using Lib.mapM_length hm
              have hll : l.length = m := by rw [Lib.mapM_length hl, ← hpl, List.length_map, hxl]
              refine rdL_flatten (P.cellsOf e) l cs (by rw [hcl, hb, hll]) (fun x hx => Nat.eq_of_beq_eq_true (List.all_eq_true.1 hall x hx)) (fun i x hi => ?_)
              have him : i < m := by rw [← hll]; exact (List.getElem?_eq_some_iff.1 hi).1
              obtain ⟨b, hb1, hb2⟩ := Lib.mapM_at hm i i (by simp [him])
              have hpi : pl[i]? = some b.1 := by rw [← hpl, List.getElem?_map, hb1]; rfl
              obtain ⟨y, hy1, hy2⟩ := Lib.mapM_at hl i b.1 hpi
              rw [hi] at hy1
              obtain rfl := Option.some.inj hy1
              exact ih fuel e _ b.1 b.2 x hb2 hy2
            · simp at h1
      · rename_i ms nm y hu
        simp only [Option.some.injEq] at h2
        subst h2
        unfold DataW.trod at h1
        rw [hu] at h1
        split at h1 <;> simp_all
        exact ⟨.cons _ _ _ _ (.anyi _ _) .nil, by simp [Value.oneCell']⟩
      · rename_i k e es hu
        split at h2
        · rename_i hk he
          simp only [Option.bind_eq_some_iff] at h2
          obtain ⟨l, hl, h2⟩ := h2
          cases hn : nodupS (l.map (·.1)) with
          | false => rw [hn] at h2; simp at h2
          | true =>
            rw [hn] at h2
            simp only [cond_true, Option.some.injEq] at h2
            subst h2
            unfold DataW.trod at h1
            rw [hu] at h1
            split at h1
            all_goals first
              | (rename_i hh; simp at hh; done)
              | (rename_i hh _ ; simp at hh; done)
              | (simp at h1; done)
              | skip
            rename_i hmm
            simp only [Option.some.injEq, TypeDesc.map.injEq] at hmm
            obtain ⟨rfl, rfl⟩ := hmm
            split at h1
            · rename_i E clock hb
              split at h1
              · exact ⟨.cons _ _ _ _ (rd_map hk he hb h1 hl hn) .nil, by simp [Value.oneCell']⟩
              · simp at h1
            · simp at h1
        · simp at h2
      · simp at h2

/-! ### From the row's list -/

theorem laidVars_get {W : World} : ∀ {l : List (String × DataW Unit)} {ps : List MemPlace}, DataW.LaidVars P W l ps → ∀ {nm : String} {d : DataW Unit}, (nm, d) ∈ l →
    ∃ g t cs fuel p, P.globalNamed nm = some g ∧ (P.globals[g]?).map (·.type) = some t ∧ W.var? P nm = some cs ∧ DataW.trod (fun _ => ()) P W 0 (fun _ => true) false fuel t cs.toList = some (d, p)
  | [], _, _, _, _, h => by simp at h
  | (n, d0) :: r, ps, hl, nm, d, h => by
    obtain ⟨g, t, cs, fuel, p, q, e1, e2, e3, e4, e5, _⟩ := hl
    rcases List.mem_cons.1 h with h | h
    · obtain ⟨rfl, rfl⟩ := Prod.mk.inj h
      exact ⟨g, t, cs, fuel, p, e1, e2, e3, e4⟩
    · exact laidVars_get e5 h

/-- What a listed variable's block holds. -/
theorem global_at {W : World} {l : List (String × DataW Unit)} {ps : List MemPlace} (h : DataW.LaidVars P W l ps) {nm : String} {d : DataW Unit} (hd : (nm, d) ∈ l) {g t n : Nat} {ds : List D} (hg : P.globalNamed nm = some g) (ht : (P.globals[g]?).map (·.type) = some t) (hl : litD P n t d = some ds) :
    ∃ vs, CellsAt W G0 g 0 vs ∧ RdL W G0 vs ds := by
  obtain ⟨g', t', cs, fuel, p, e1, e2, e3, e4⟩ := laidVars_get h hd
  obtain rfl := Option.some.inj (hg.symm.trans e1)
  obtain rfl := Option.some.inj (ht.symm.trans e2)
  obtain ⟨r1, r2⟩ := rd_lit n fuel t cs.toList d p ds e4 hl
  refine ⟨cs.toList, fun j v hv => ?_, r1⟩
  have hj : j < cs.size := by
    have := (List.getElem?_eq_some_iff.1 hv).1
    simpa using this
  refine ⟨?_, fun L n h => by simp [G0] at h, r2 v (List.mem_of_getElem? hv)⟩
  have := World.var?_cell hg e3 j
  rw [Nat.zero_add, this]
  simpa using hv

end
end Go.Vm
end

section
/- A world in which listed variables lie, for a row's witness; two small facts of readings. Conditions: none. -/
namespace Go.Vm

mutual
def flatV : DataW Unit → List Value
  | .lit (.int k n) => [.int k n]
  | .lit (.string b) => [.string ⟨b.toArray⟩]
  | .agg ps => flatVs ps
  | _ => []
def flatVs : List (DataW Unit) → List Value
  | [] => []
  | d :: l => flatV d ++ flatVs l
end

def entsV : DataW Unit → Array MapEntry
  | .map es => (es.zipIdx.map fun x => ⟨(flatV (.lit x.1.1)).headD .nilIface, (flatV x.1.2).headD .nilIface, x.2⟩).toArray
  | _ => #[]

/-- A variable's cells. -/
def setG (h : Array Obj) (g : Nat) (vs : List Value) : Array Obj := h.modify g fun
  | .cells _ t f => .cells vs.toArray t f
  | o => o

theorem goes_none (P : Program) (c : OpenClaim) (hs : c.start = .entering) (h : ∀ f, P.goes f = false) : false = c.goesBy P := by
  unfold OpenClaim.goesBy Program.goesAt Program.goesFrom
  rw [hs]
  cases P.funcNamed c.func with
  | none => rfl
  | some f => simp [h]

theorem goes_of (P : Program) (noGo : (P.funcs.any Func.goes) = false) (f : FuncId) : P.goes f = false := by
  unfold Program.goes
  rw [noGo, Bool.and_false, Bool.or_false]
  refine List.any_eq_false.2 fun g _ => ?_
  cases hg : P.funcs[g]? with
  | none => simp
  | some fn =>
    have := Array.any_eq_false.1 noGo
    obtain ⟨hlt, he⟩ := Array.getElem?_eq_some_iff.1 hg
    have h2 := this g hlt
    rw [he] at h2
    simpa using h2

end Go.Vm
end
