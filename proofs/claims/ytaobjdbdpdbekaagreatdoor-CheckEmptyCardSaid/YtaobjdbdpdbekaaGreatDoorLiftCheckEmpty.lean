/- The law's row and card, from what the machine computes. Conditions: none. -/
import Derived.Test.YtaobjdbdpdbekaaGreatDoorDef
import Derived.Test.YtaobjdbdpdbekaaGreatDoorCards
import Derived.Test.YtaobjdbdpdbekaaGreatDoorTie
import Derived.Test.YtaobjdbdpdbekaaGreatDoorV5
import Derived.Test.YtaobjdbdpdbekaaGreatDoorFactsCheckEmpty
import Derived.WalkKit
import Derived.ProofKit
import Derived.OpenShut
import Derived.Deep.DeepHandedRow
import Derived.Deep.DeepLaidRun
set_option maxRecDepth 100000
namespace Go.Proofs.YtaobjdbdpdbekaaGreatDoor
open Go Go.Vm Go.ChangeShapes Go.WideShapes Go.ChangeAt Go.RowKit

theorem own : ownKnob Tryz.prog.godebug = none := by kernel_rfl

theorem bulkLike (H : Type) : BulkLike (H := H) Rows.uptoBulk where
  str s := by simp [Rows.uptoBulk]
  slice es sp := by
    have key : ∀ l : List (DataW H), l.length ≤ Rows.uptoBulkAll l ∧ ∀ x, x ∈ l → Rows.uptoBulk x ≤ Rows.uptoBulkAll l := by
      intro l
      induction l with
      | nil => exact ⟨by simp, by simp⟩
      | cons y l ih =>
        have h1 : 1 ≤ Rows.uptoBulk y := by cases y <;> (try rename_i q; cases q) <;> simp [Rows.uptoBulk]
        refine ⟨by simp only [List.length_cons, Rows.uptoBulkAll]; omega, fun x hx => ?_⟩
        simp only [Rows.uptoBulkAll]
        rcases List.mem_cons.1 hx with rfl | hx
        · omega
        · have := ih.2 x hx; omega
    obtain ⟨h1, h2⟩ := key es
    simp only [Rows.uptoBulk]
    exact ⟨by omega, fun x hx => by have := h2 x hx; omega⟩
  agg ps x hx := by
    have key : ∀ l : List (DataW H), ∀ x, x ∈ l → Rows.uptoBulk x ≤ Rows.uptoBulkAll l := by
      intro l
      induction l with
      | nil => simp
      | cons y l ih =>
        intro x hx
        simp only [Rows.uptoBulkAll]
        rcases List.mem_cons.1 hx with rfl | hx
        · omega
        · have := ih x hx; omega
    have := key ps x hx
    simp only [Rows.uptoBulk]; omega

def tys : List (Bool × List CT) := [(false, [.str]), (false, [.int .i64])]
theorem tysOk : Tryz.f6.params.toList.mapM (ctOf Tryz.prog 20) = some tys := by kernel_rfl

/-- A world for the witness. -/
noncomputable def low : Nat := (World.holding Tryz.prog default ⟨#[], #[], []⟩).heap.size
noncomputable def laidWorld (os : Os) : World :=
  let w0 := World.holding Tryz.prog os ⟨#[.cells #[.string ⟨#[118, 97, 108, 117, 101, 32, 111, 117, 116, 32, 111, 102, 32, 114, 97, 110, 103, 101]⟩] 391 (0, 0), .cells #[.string ⟨#[105, 110, 118, 97, 108, 105, 100, 32, 115, 121, 110, 116, 97, 120]⟩] 391 (0, 0), .map (entsV Rows.laid_bywash_show_ranks) 1000], #[], []⟩
  { w0 with heap := (setG (setG (setG (setG (setG (setG (setG (setG (setG (setG (setG (setG (setG w0.heap 0 (flatV Rows.laid_bywash_schema_words)) 1 (flatV Rows.laid_bywash_cron_bounds)) 2 (flatV Rows.laid_bywash_lex_signs)) 3 (flatV Rows.laid_bywash_relop_needs)) 4 (flatV Rows.laid_unicode_utf8_first)) 5 (flatV Rows.laid_unicode_utf8_acceptRanges)) 7 [.map (some (low + 2))]) 8 [.iface 389 (.pointer (some ⟨low + 1, 0, none⟩))]) 9 [.iface 389 (.pointer (some ⟨low + 0, 0, none⟩))]) 10 (flatV Rows.laid_internal_strconv_uint64pow10)) 11 (flatV Rows.laid_bywash_calendar_lengths)) 12 (flatV Rows.laid_math_bits_deBruijn32tab)) 13 (flatV Rows.laid_math_bits_deBruijn64tab)) }

noncomputable def wit : Array Value := #[.string ⟨#[]⟩, .int .i64 0]
theorem laidMet_wit (os : Os) : laidMet Tryz.prog Rows.checkEmptyRow.laid ((laidWorld os).forCall (fun _ _ => 0) ⟨#[], wit, []⟩).memory :=
  laidMet_of_run3 8 (by kernel_rfl) (by kernel_rfl) (by kernel_rfl)
theorem reads_wit (os : Os) {H : Type} (enc : TypeId × Value → H) : ∃ places, DataW.whole enc Tryz.prog ((laidWorld os).forCall (fun _ _ => 0) ⟨#[], wit, []⟩).memory Tryz.f6.params.toList Rows.checkEmptySpec.vars false wit.toList 8 = some ([.lit (.string []), .lit (.int .i64 0)], [], places) :=
  ⟨[], by kernel_rfl⟩

/-- How much an argument holds. -/
theorem bulks {H : Type} {enc : TypeId × Value → H} {W : World} {args : Array Value} {ds gs : List (DataW H)} {before : List MemPlace} (hW : DataW.Whole enc Tryz.prog Tryz.f6.params.toList Rows.checkEmptySpec.vars false W args.toList ds gs before) :
    ds.length = 2 ∧ ∀ d, d ∈ ds → Rows.uptoBulk d ≤ 9223372036854775808 := by
  obtain ⟨p1, q1, hA0, _⟩ := hW
  have hA : DataW.TrodAll enc Tryz.prog W 0 (fun _ => true) true Tryz.f6.params.toList args.toList ds p1 := hA0
  rw [Tryz.params6] at hA
  obtain ⟨v0, vs0, d0, ds0, p0, q0, _, rfl, _, h0, hA⟩ := trodAll_cons hA
  obtain ⟨v1, vs1, d1, ds1, p1, q1, _, rfl, _, h1, hA⟩ := trodAll_cons hA
  obtain ⟨_, rfl, _⟩ := trodAll_nil hA
  refine ⟨rfl, fun d hd => ?_⟩
  simp only [List.mem_cons, List.mem_nil_iff, or_false] at hd
  rcases hd with rfl | rfl
  · obtain ⟨fuel, h⟩ := h0
    obtain ⟨m, _, he, hsz⟩ := DataW.trod_string (P := Tryz.prog) (by kernel_rfl) h
    simp only [Prod.mk.injEq] at he
    rw [he.1]
    have hm : m.data.toList.length = m.size := rfl
    unfold maxLen at hsz
    simp only [Rows.uptoBulk, hm]
    omega
  · obtain ⟨fuel, h⟩ := h1
    obtain ⟨m, _, he, _⟩ := DataW.trod_int (P := Tryz.prog) (k := .i64) (by kernel_rfl) h
    simp only [Prod.mk.injEq] at he
    rw [he.1]
    simp [Rows.uptoBulk]

theorem contract (hwalk : ∀ qs, OkA 9223372036854775808 tys qs → VEv Tryz.prog gl 6 qs [] (.d (.bool true)) []) (H : Type) (enc : TypeId × Value → H) (W : World) (base : Nat) (args : Array Value) (ds gs : List (DataW H)) (before : List MemPlace)
    (hval : ∀ (j : Nat) t v, Tryz.f6.params[j]? = some t → args[j]? = some v → Value.okWide Tryz.prog W .any base t v)
    (hW : DataW.Whole enc Tryz.prog Tryz.f6.params.toList Rows.checkEmptySpec.vars false W args.toList ds gs before) (hL : laidMetH Tryz.prog Rows.checkEmptyRow.laid W) :
    Calls Tryz.prog 6 args W fun e W' => ∃ v, e = .returned v ∧ Rows.checkEmptySpec.post enc Tryz.prog Tryz.f6 false true false false W args v W' := by
  obtain ⟨hlen, hB⟩ := bulks hW
  refine contract_law (bulkLike H) (N := 9223372036854775808) (n := 20) (tb := 4) (gl := gl) rfl (fun _ => ?_) (by kernel_rfl) (by kernel_rfl) laidOut (by kernel_rfl) tysOk (globals hL) hval hW hB hwalk
  have hgs : gs = [] := by
    obtain ⟨p, q, _, hV, _⟩ := hW
    exact (trodVars_none (show DataW.TrodVars enc Tryz.prog W (fun _ => true) [] gs q from hV)).1
  subst hgs
  match ds, hlen with
  | [d0, d1], _ => rfl

theorem lifted (hwalk : ∀ qs, OkA 9223372036854775808 tys qs → VEv Tryz.prog gl 6 qs [] (.d (.bool true)) []) (os : Os) (started : os.Started) (H : Type) (enc : TypeId × Value → H) (F : Stop.Interp) :
    ReturnsInHanded {} Tryz.checked os 6 .any ((OpenSpec.ofChange Rows.checkEmptySpec).preRow enc Tryz.prog Tryz.f6 Rows.checkEmptyRow.domain false Rows.checkEmptyRow.laid) (((OpenSpec.ofChange Rows.checkEmptySpec).at F).post enc Tryz.prog Tryz.f6 false true false false) := by
  obtain ⟨places, hx⟩ := reads_wit os enc
  refine returnsInHanded_of_row (C := Tryz.checked) (s := OpenSpec.ofChange Rows.checkEmptySpec) own started (by kernel_rfl) Tryz.func6
    (witness_row_at (enc := enc) (C := Tryz.checked) false (laidWorld os) wit rfl (by kernel_rfl) (by kernel_rfl) (by kernel_rfl)
      (OpenSpec.preRow_of_cond 8 hx (by kernel_rfl) (fun k hk => by cases hk) (by kernel_rfl) (laidMet_wit os))) ?_
  intro W base args ds gs before hval hW _ _ _ hL _ _
  exact contract hwalk H enc W base args ds gs before hval hW hL

theorem said (hwalk : ∀ qs, OkA 9223372036854775808 tys qs → VEv Tryz.prog gl 6 qs [] (.d (.bool true)) []) : Rows.CheckEmptySaid :=
  OpenClaim.holds_of_cond 6 Tryz.f6 rfl rfl rfl rfl rfl rfl rfl ⟨rfl, rfl, rfl, rfl, rfl⟩ rfl rfl rfl rfl rfl (by kernel_rfl) Tryz.func6 closedT
    (of_decide_eq_true (by kernel_rfl)) (by unfold Func.isWrapper; first | (rw [if_pos (by decide +kernel)]; kernel_rfl) | (rw [if_neg (by decide +kernel)]; exact ⟨rfl, rfl⟩))
    (fun os started H enc _ F => by rw [OpenClaim.pre_eq_preRow]; exact lifted hwalk os started H enc F)

theorem plain (f : FuncId) (fn : Func) (hf : Tryz.pinned.checked.prog.funcNamed Rows.checkEmptyRow.func = some f) (hfn : Tryz.pinned.checked.prog.funcs[f]? = some fn) :
    true = Tryz.pinned.checked.prog.looks [] ∧ ∀ (j : Nat) t, fn.params[j]? = some t → Tryz.pinned.checked.prog.wantsStandIn t = false := by
  obtain rfl : f = 6 := Option.some.inj ((show Tryz.prog.funcNamed Rows.checkEmptyRow.func = some 6 by kernel_rfl).symm.trans hf) |>.symm
  obtain rfl : fn = Tryz.f6 := (Option.some.inj (Tryz.func6.symm.trans hfn)).symm
  refine ⟨by kernel_rfl, fun j t ht => ?_⟩
  have hall : (Tryz.f6.params.toList.all fun t => !Tryz.prog.wantsStandIn t) = true := by kernel_rfl
  have := List.all_eq_true.1 hall t (by
    have := List.mem_of_getElem? (l := Tryz.f6.params.toList) (i := j) (a := t) (by simpa using ht)
    exact this)
  exact Bool.not_eq_true' _ |>.mp this

theorem card (hwalk : ∀ qs, OkA 9223372036854775808 tys qs → VEv Tryz.prog gl 6 qs [] (.d (.bool true)) []) : Rows.CheckEmptyCardSaid :=
  Claim7.holds_tied_plain_at .later [] _ _ _ _ (said hwalk) (fun _ h => by cases h) ct1 (fun _ h => by cases h) checkEmpty_row_tie rfl ⟨rfl, rfl⟩ ct2 rfl plain ct3

end Go.Proofs.YtaobjdbdpdbekaaGreatDoor
