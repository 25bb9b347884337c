/- The two laws' rows and cards, from what the machine computes. Conditions: none. -/
import Derived.Test.YthalcnhgnadmlaaDoorCards
import Derived.Test.YthalcnhgnadmlaaDoorTie
import Derived.Test.YthalcnhgnadmlaaDoorV6
import Derived.WalkKit
import Derived.ProofKit
import Derived.OpenShut
import Derived.Deep.DeepHandedRow
import Derived.Lib.LaidTab
set_option maxRecDepth 100000
namespace Go.Proofs.YthalcnhgnadmlaaDoor
open Go Go.Vm Go.ChangeShapes Go.WideShapes Go.ChangeAt Go.RowKit

def hasL : List Int := [0, 1, 6, 8, 57, 48, 64, 2, 68, 232, 64, 32, 0, 0]
def has : List D := hasL.map fun n => .int .i64 n
def gl : Nat → List D := fun g => match g with | 0 => has | _ => []

theorem own : ownKnob Tryd.prog.godebug = none := by kernel_rfl
theorem laidOut : laidOutB Tryd.prog = true := by kernel_rfl
theorem gHas : Tryd.prog.globalNamed "bywash/code.has" = some 0 := by kernel_rfl

theorem bulkLike (H : Type) : BulkLike (H := H) Rows.uptoBulk where
  str s := by simp [Rows.uptoBulk]
  slice es sp := by
    have key : ∀ l : List (DataW H), l.length ≤ Rows.uptoBulkAll l ∧ ∀ x, x ∈ l → Rows.uptoBulk x ≤ Rows.uptoBulkAll l := by
      intro l
      induction l with
      | nil => exact ⟨by simp, by simp⟩
      | cons y l ih =>
        have h1 : 1 ≤ Rows.uptoBulk y := by cases y <;> (try rename_i q; cases q) <;> simp [Rows.uptoBulk]
        refine ⟨by simp only [List.length_cons, Rows.uptoBulkAll]; omega, fun x hx => ?_⟩
        simp only [Rows.uptoBulkAll]
        rcases List.mem_cons.1 hx with rfl | hx
        · omega
        · have := ih.2 x hx; omega
    obtain ⟨h1, h2⟩ := key es
    simp only [Rows.uptoBulk]
    exact ⟨by omega, fun x hx => by have := h2 x hx; omega⟩
  agg ps x hx := by
    have key : ∀ l : List (DataW H), ∀ x, x ∈ l → Rows.uptoBulk x ≤ Rows.uptoBulkAll l := by
      intro l
      induction l with
      | nil => simp
      | cons y l ih =>
        intro x hx
        simp only [Rows.uptoBulkAll]
        rcases List.mem_cons.1 hx with rfl | hx
        · omega
        · have := ih x hx; omega
    have := key ps x hx
    simp only [Rows.uptoBulk]; omega

def tyBytes : List (Bool × List CT) := [(false, [.list false [.int .u8]])]
def ctVal : List CT := [.int .i64, .int .i64, .str]
def ctPart : List CT := [.str, .int .i64]
def ctEvent : List CT := [.int .i64, .int .i64, .int .i64, .str, .str, .int .i64, .list true ctPart, .list true ctPart, .list false [.list true ctVal], .int .i64, .bool]
def tyEvent : List (Bool × List CT) := [(true, ctEvent)]

theorem ty4 : Tryd.f4.params.toList.mapM (ctOf Tryd.prog 20) = some tyBytes := by kernel_rfl
theorem ty3 : Tryd.f3.params.toList.mapM (ctOf Tryd.prog 20) = some tyEvent := by kernel_rfl

theorem table {W : World} (h : laidMetH Tryd.prog Rows.codeReadsRow.laid W) : Lib.TabIs Tryd.prog W "bywash/code.has" .i64 hasL :=
  Lib.tabIs_of_head (rest := []) (t := 53) (n := 14) gHas (by kernel_rfl) (by kernel_rfl) (e := 3) (by kernel_rfl) (by kernel_rfl) (by kernel_rfl) h

theorem globals {W : World} (h : laidMetH Tryd.prog Rows.codeReadsRow.laid W) : GlobalsAre W gl := by
  intro g
  match g with
  | 0 =>
    refine ⟨hasL.map fun n => .int .i64 n, ?_, ?_⟩
    · intro j v hv
      simp only [List.getElem?_map, Option.map_eq_some_iff] at hv
      obtain ⟨n, hn, rfl⟩ := hv
      have hj : j < hasL.length := by
        rcases Nat.lt_or_ge j hasL.length with h | h
        · exact h
        · rw [List.getElem?_eq_none h] at hn; simp at hn
      have := (table h).cell gHas j hj
      refine ⟨?_, fun L n h => by simp [G0] at h, rfl⟩
      rw [Nat.zero_add]
      rw [this]
      rw [List.getElem?_eq_getElem hj] at hn
      simp only [Option.some.injEq] at hn
      rw [← hn]
      rw [List.getD_eq_getElem?_getD, List.getElem?_eq_getElem hj]; rfl
    · exact .mk (by simp [gl, has]) fun j v x hv hx => by
        simp only [gl, has, List.getElem?_map, Option.map_eq_some_iff] at hv hx
        obtain ⟨n, hn, rfl⟩ := hv
        obtain ⟨m, hm, rfl⟩ := hx
        rw [hn] at hm
        cases hm
        exact .int _ _
  | g + 1 => exact ⟨[], fun j v hv => by simp at hv, .nil⟩

/-- A world for the witness. -/
noncomputable def laidWorld (os : Os) : World :=
  { World.holding Tryd.prog os ⟨#[], #[], []⟩ with heap := (World.holding Tryd.prog os ⟨#[], #[], []⟩).heap.modify 0 fun
      | .cells _ t frozen => .cells (hasL.map fun n => Value.int .i64 n).toArray t frozen
      | o => o }

theorem bulk_one {H : Type} {d : DataW H} {gs : List (DataW H)} (h : Rows.uptoSmall H ([d] ++ gs) = true) : ∀ x, x ∈ [d] → Rows.uptoBulk x ≤ 1048576 := by
  have h := of_decide_eq_true h
  intro x hx
  simp only [List.mem_singleton] at hx
  subst hx
  simp only [List.singleton_append, Rows.uptoBulkAll] at h
  omega

section reads
noncomputable def wit4 : Array Value := #[.slice none 0 0]
theorem laid_met4 (os : Os) : laidMet Tryd.prog Rows.codeReadsUptoRow.laid ((laidWorld os).forCall (fun _ _ => 0) ⟨#[], wit4, []⟩).memory :=
  laidMet_of_run' 8 (by kernel_rfl) (by kernel_rfl)
theorem reads4 (os : Os) {H : Type} (enc : TypeId × Value → H) : ∃ places, DataW.whole enc Tryd.prog ((laidWorld os).forCall (fun _ _ => 0) ⟨#[], wit4, []⟩).memory Tryd.f4.params.toList Rows.codeReadsSpec.vars false wit4.toList 8 = some ([.nil], [], places) :=
  ⟨[], by kernel_rfl⟩

theorem contract4 (hwalk : ∀ qs, OkA 1048576 tyBytes qs → VEv Tryd.prog gl 4 qs [] (.d (.bool true)) []) (H : Type) (enc : TypeId × Value → H) (W : World) (base : Nat) (args : Array Value) (ds gs : List (DataW H)) (before : List MemPlace)
    (hval : ∀ (j : Nat) t v, Tryd.f4.params[j]? = some t → args[j]? = some v → Value.okWide Tryd.prog W .any base t v)
    (hW : DataW.Whole enc Tryd.prog Tryd.f4.params.toList Rows.codeReadsSpec.vars false W args.toList ds gs before) (hk : Rows.uptoSmall H (ds ++ gs) = true) (hL : laidMetH Tryd.prog Rows.codeReadsRow.laid W) :
    Calls Tryd.prog 4 args W fun e W' => ∃ v, e = .returned v ∧ Rows.codeReadsSpec.post enc Tryd.prog Tryd.f4 false true false false W args v W' := by
  obtain ⟨p1, q1, hA0, _⟩ := id hW
  have hA : DataW.TrodAll enc Tryd.prog W 0 (fun _ => true) true Tryd.f4.params.toList args.toList ds p1 := hA0
  rw [Tryd.params4] at hA
  obtain ⟨v0, d0, _, rfl, _⟩ := trodAll_one hA
  refine contract_law (bulkLike H) (N := 1048576) (n := 20) (tb := 4) (gl := gl) rfl (fun _ => ?_) (by kernel_rfl) (by kernel_rfl) laidOut (by kernel_rfl) ty4 (globals hL) hval hW (bulk_one hk) hwalk
  have hgs : gs = [] := by
    obtain ⟨p, q, _, hV, _⟩ := hW
    exact (trodVars_none (show DataW.TrodVars enc Tryd.prog W (fun _ => true) [] gs q from hV)).1
  subst hgs
  rfl

theorem lifted4 (hwalk : ∀ qs, OkA 1048576 tyBytes qs → VEv Tryd.prog gl 4 qs [] (.d (.bool true)) []) (os : Os) (started : os.Started) (H : Type) (enc : TypeId × Value → H) (F : Stop.Interp) :
    ReturnsInHanded {} Tryd.checked os 4 .any ((Rows.OpenSpec.upto Rows.codeReadsSpec).preRow enc Tryd.prog Tryd.f4 Rows.codeReadsUptoRow.domain false Rows.codeReadsUptoRow.laid) (((Rows.OpenSpec.upto Rows.codeReadsSpec).at F).post enc Tryd.prog Tryd.f4 false true false false) := by
  obtain ⟨places, hx⟩ := reads4 os enc
  refine returnsInHanded_of_row (C := Tryd.checked) (s := Rows.OpenSpec.upto Rows.codeReadsSpec) own started (by kernel_rfl) Tryd.func4
    (witness_row_at (enc := enc) (C := Tryd.checked) false (laidWorld os) wit4 rfl (by kernel_rfl) (by kernel_rfl) (by kernel_rfl)
      (OpenSpec.preRow_of_cond 8 hx (by kernel_rfl) (fun k hk => by cases hk; kernel_rfl) (by kernel_rfl) (laid_met4 os))) ?_
  intro W base args ds gs before hval hW _ hk _ hL _ _
  exact contract4 hwalk H enc W base args ds gs before hval hW (hk _ rfl) hL

theorem said4 (hwalk : ∀ qs, OkA 1048576 tyBytes qs → VEv Tryd.prog gl 4 qs [] (.d (.bool true)) []) : Rows.CodeReadsUptoSaid :=
  OpenClaim.holds_of_cond 4 Tryd.f4 rfl rfl rfl rfl rfl rfl rfl ⟨rfl, rfl, rfl, rfl, rfl⟩ rfl rfl rfl rfl rfl (by kernel_rfl) Tryd.func4 (by kernel_rfl)
    (of_decide_eq_true (by kernel_rfl)) (by unfold Func.isWrapper; first | (rw [if_pos (by decide +kernel)]; kernel_rfl) | (rw [if_neg (by decide +kernel)]; exact ⟨rfl, rfl⟩))
    (fun os started H enc _ F => by rw [OpenClaim.pre_eq_preRow]; exact lifted4 hwalk os started H enc F)

theorem plain4 (f : FuncId) (fn : Func) (hf : Tryd.pinned.checked.prog.funcNamed "bywash/bywashlaw21.CodeReads" = some f) (hfn : Tryd.pinned.checked.prog.funcs[f]? = some fn) :
    false = Tryd.pinned.checked.prog.looks [] ∧ ∀ (j : Nat) t, fn.params[j]? = some t → Tryd.pinned.checked.prog.wantsStandIn t = false := by
  obtain rfl : f = 4 := Option.some.inj ((show Tryd.prog.funcNamed "bywash/bywashlaw21.CodeReads" = some 4 by kernel_rfl).symm.trans hf) |>.symm
  obtain rfl : fn = Tryd.f4 := (Option.some.inj (Tryd.func4.symm.trans hfn)).symm
  refine ⟨by kernel_rfl, fun j t ht => ?_⟩
  rw [Tryd.params4] at ht
  obtain rfl : t = 36 := by simpa using Array.mem_of_getElem? ht
  exact (show Tryd.prog.wantsStandIn 36 = false by kernel_rfl)

theorem card4 (hwalk : ∀ qs, OkA 1048576 tyBytes qs → VEv Tryd.prog gl 4 qs [] (.d (.bool true)) []) : Rows.CodeReadsUptoCardSaid :=
  Claim7.holds_tied_plain_at .later [] _ _ _ _ (said4 hwalk) (fun _ h => by cases h) (by kernel_rfl) (fun _ h => by cases h) codeReadsUpto_row_tie rfl ⟨rfl, rfl⟩ (by kernel_rfl) rfl plain4 (by kernel_rfl)
end reads

section events
noncomputable def wit3 : Array Value := #[.agg #[.int .i64 0, .int .i64 0, .int .i64 0, .string ⟨#[]⟩, .string ⟨#[]⟩, .int .i64 0, .slice none 0 0, .slice none 0 0, .slice none 0 0, .int .i64 0, .bool false]]
theorem laid_met3 (os : Os) : laidMet Tryd.prog Rows.codeEventsUptoRow.laid ((laidWorld os).forCall (fun _ _ => 0) ⟨#[], wit3, []⟩).memory :=
  laidMet_of_run' 8 (by kernel_rfl) (by kernel_rfl)
theorem reads3 (os : Os) {H : Type} (enc : TypeId × Value → H) : ∃ places, DataW.whole enc Tryd.prog ((laidWorld os).forCall (fun _ _ => 0) ⟨#[], wit3, []⟩).memory Tryd.f3.params.toList Rows.codeEventsSpec.vars false wit3.toList 8 = some ([.agg [.lit (.int .i64 0), .lit (.int .i64 0), .lit (.int .i64 0), .lit (.string []), .agg [.lit (.string []), .lit (.int .i64 0)], .nil, .agg [.nil, .nil], .lit (.int .i64 0), .lit (.bool false)]], [], places) :=
  ⟨[], by kernel_rfl⟩

theorem contract3 (hwalk : ∀ qs, OkA 1048576 tyEvent qs → VEv Tryd.prog gl 3 qs [] (.d (.bool true)) []) (H : Type) (enc : TypeId × Value → H) (W : World) (base : Nat) (args : Array Value) (ds gs : List (DataW H)) (before : List MemPlace)
    (hval : ∀ (j : Nat) t v, Tryd.f3.params[j]? = some t → args[j]? = some v → Value.okWide Tryd.prog W .any base t v)
    (hW : DataW.Whole enc Tryd.prog Tryd.f3.params.toList Rows.codeEventsSpec.vars false W args.toList ds gs before) (hk : Rows.uptoSmall H (ds ++ gs) = true) (hL : laidMetH Tryd.prog Rows.codeEventsRow.laid W) :
    Calls Tryd.prog 3 args W fun e W' => ∃ v, e = .returned v ∧ Rows.codeEventsSpec.post enc Tryd.prog Tryd.f3 false true false false W args v W' := by
  obtain ⟨p1, q1, hA0, _⟩ := id hW
  have hA : DataW.TrodAll enc Tryd.prog W 0 (fun _ => true) true Tryd.f3.params.toList args.toList ds p1 := hA0
  rw [Tryd.params3] at hA
  obtain ⟨v0, d0, _, rfl, _⟩ := trodAll_one hA
  refine contract_law (bulkLike H) (N := 1048576) (n := 20) (tb := 4) (gl := gl) rfl (fun _ => ?_) (by kernel_rfl) (by kernel_rfl) laidOut (by kernel_rfl) ty3 (globals (show laidMetH Tryd.prog Rows.codeReadsRow.laid W from hL)) hval hW (bulk_one hk) hwalk
  have hgs : gs = [] := by
    obtain ⟨p, q, _, hV, _⟩ := hW
    exact (trodVars_none (show DataW.TrodVars enc Tryd.prog W (fun _ => true) [] gs q from hV)).1
  subst hgs
  rfl

theorem lifted3 (hwalk : ∀ qs, OkA 1048576 tyEvent qs → VEv Tryd.prog gl 3 qs [] (.d (.bool true)) []) (os : Os) (started : os.Started) (H : Type) (enc : TypeId × Value → H) (F : Stop.Interp) :
    ReturnsInHanded {} Tryd.checked os 3 .any ((Rows.OpenSpec.upto Rows.codeEventsSpec).preRow enc Tryd.prog Tryd.f3 Rows.codeEventsUptoRow.domain false Rows.codeEventsUptoRow.laid) (((Rows.OpenSpec.upto Rows.codeEventsSpec).at F).post enc Tryd.prog Tryd.f3 false true false false) := by
  obtain ⟨places, hx⟩ := reads3 os enc
  refine returnsInHanded_of_row (C := Tryd.checked) (s := Rows.OpenSpec.upto Rows.codeEventsSpec) own started (by kernel_rfl) Tryd.func3
    (witness_row_at (enc := enc) (C := Tryd.checked) false (laidWorld os) wit3 rfl (by kernel_rfl) (by kernel_rfl) (by kernel_rfl)
      (OpenSpec.preRow_of_cond 8 hx (by kernel_rfl) (fun k hk => by cases hk; kernel_rfl) (by kernel_rfl) (laid_met3 os))) ?_
  intro W base args ds gs before hval hW _ hk _ hL _ _
  exact contract3 hwalk H enc W base args ds gs before hval hW (hk _ rfl) hL

theorem said3 (hwalk : ∀ qs, OkA 1048576 tyEvent qs → VEv Tryd.prog gl 3 qs [] (.d (.bool true)) []) : Rows.CodeEventsUptoSaid :=
  OpenClaim.holds_of_cond 3 Tryd.f3 rfl rfl rfl rfl rfl rfl rfl ⟨rfl, rfl, rfl, rfl, rfl⟩ rfl rfl rfl rfl rfl (by kernel_rfl) Tryd.func3 (by kernel_rfl)
    (of_decide_eq_true (by kernel_rfl)) (by unfold Func.isWrapper; first | (rw [if_pos (by decide +kernel)]; kernel_rfl) | (rw [if_neg (by decide +kernel)]; exact ⟨rfl, rfl⟩))
    (fun os started H enc _ F => by rw [OpenClaim.pre_eq_preRow]; exact lifted3 hwalk os started H enc F)

theorem plain3 (f : FuncId) (fn : Func) (hf : Tryd.pinned.checked.prog.funcNamed "bywash/bywashlaw21.CodeEvents" = some f) (hfn : Tryd.pinned.checked.prog.funcs[f]? = some fn) :
    false = Tryd.pinned.checked.prog.looks [] ∧ ∀ (j : Nat) t, fn.params[j]? = some t → Tryd.pinned.checked.prog.wantsStandIn t = false := by
  obtain rfl : f = 3 := Option.some.inj ((show Tryd.prog.funcNamed "bywash/bywashlaw21.CodeEvents" = some 3 by kernel_rfl).symm.trans hf) |>.symm
  obtain rfl : fn = Tryd.f3 := (Option.some.inj (Tryd.func3.symm.trans hfn)).symm
  refine ⟨by kernel_rfl, fun j t ht => ?_⟩
  rw [Tryd.params3] at ht
  obtain rfl : t = 32 := by simpa using Array.mem_of_getElem? ht
  exact (show Tryd.prog.wantsStandIn 32 = false by kernel_rfl)

theorem card3 (hwalk : ∀ qs, OkA 1048576 tyEvent qs → VEv Tryd.prog gl 3 qs [] (.d (.bool true)) []) : Rows.CodeEventsUptoCardSaid :=
  Claim7.holds_tied_plain_at .later [] _ _ _ _ (said3 hwalk) (fun _ h => by cases h) (by kernel_rfl) (fun _ h => by cases h) codeEventsUpto_row_tie rfl ⟨rfl, rfl⟩ (by kernel_rfl) rfl plain3 (by kernel_rfl)
end events

end Go.Proofs.YthalcnhgnadmlaaDoor
