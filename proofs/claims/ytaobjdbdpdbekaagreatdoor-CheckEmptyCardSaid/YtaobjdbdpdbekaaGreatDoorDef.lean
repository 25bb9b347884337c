/- The package variables as data, the library's functions, the program's functions. Conditions: none. -/
import Derived.Test.YtaobjdbdpdbekaaGreatDoorVf
import Derived.Test.YtaobjdbdpdbekaaGreatDoorV5
import Derived.KernelRfl
import Derived.Test.YtaobjdbdpdbekaaGreatDoorShelf
import Derived.Test.YtaobjdbdpdbekaaGreatDoorRows
set_option maxRecDepth 100000
namespace Go.Proofs.YtaobjdbdpdbekaaGreatDoor
open Go Go.Vm

/-- bywash/schema.words -/
def gl0 : List D := [.str [], .str [105, 110, 116], .str [116, 101, 120, 116]]
/-- bywash/cron.bounds -/
def gl1 : List D := [.int .i64 0, .int .i64 59, .int .i64 0, .int .i64 23, .int .i64 1, .int .i64 31, .int .i64 1, .int .i64 12, .int .i64 0, .int .i64 6]
/-- bywash/lex.signs -/
def gl2 : List D := [.str [33, 61], .str [60, 61], .str [62, 61], .str [46, 46], .str [40], .str [41], .str [44], .str [59], .str [58], .str [124], .str [43], .str [45], .str [42], .str [47], .str [37], .str [61], .str [60], .str [62]]
/-- bywash/relop.needs -/
def gl3 : List D := [.int .i64 0, .int .i64 0, .int .i64 1, .int .i64 1, .int .i64 2, .int .i64 2, .int .i64 1, .int .i64 2, .int .i64 1, .int .i64 1]
/-- bywash/show.ranks -/
def gl7 : List D := [.imap [.str [33, 61], .str [37], .str [42], .str [43], .str [45], .str [47], .str [60], .str [60, 61], .str [61], .str [62], .str [62, 61], .str [97, 110, 100], .str [111, 114]] [.int .i64 4, .int .i64 6, .int .i64 6, .int .i64 5, .int .i64 5, .int .i64 6, .int .i64 4, .int .i64 4, .int .i64 4, .int .i64 4, .int .i64 4, .int .i64 2, .int .i64 1]]
/-- bywash/calendar.lengths -/
def gl11 : List D := [.int .i64 0, .int .i64 31, .int .i64 28, .int .i64 31, .int .i64 30, .int .i64 31, .int .i64 30, .int .i64 31, .int .i64 31, .int .i64 30, .int .i64 31, .int .i64 30, .int .i64 31]
def gl : Nat → List D := fun g => match g with | 0 => gl0 | 1 => gl1 | 2 => gl2 | 3 => gl3 | 7 => gl7 | 11 => gl11 | _ => []
def tab : Nat → Option VF := tabOf tabL
def ext : Nat → List Val → Store → Out := extOf 124 5 47 49 83 151 185

theorem exts : Exts Tryz.prog 124 5 47 49 83 151 185 where
  cw := ⟨Tryz.f47, Tryz.func47, by kernel_rfl, by kernel_rfl⟩
  cs := ⟨Tryz.f49, Tryz.func49, by kernel_rfl, by kernel_rfl⟩
  cj := ⟨Tryz.f83, Tryz.func83, by kernel_rfl, by kernel_rfl⟩
  ci := ⟨Tryz.f151, Tryz.func151, by kernel_rfl, by kernel_rfl⟩
  ca := ⟨Tryz.f185, Tryz.func185, by kernel_rfl, by kernel_rfl⟩
  w := fun _ _ _ _ s _ h hl => write_b { Tryz.lays156 with } Tryz.Builder_Extra_156 s h hl
  s := fun _ _ _ _ _ h => string_b Tryz.lays169 Tryz.Builder_Extra_169 h
  j := ⟨fun a c sep w => Any.strings_Join_none Tryz.lays156 Tryz.Builder_Extra_156 a c sep w, fun bk o c xs sep w h1 h2 h3 h4 h5 => Any.strings_Join Tryz.lays156 Tryz.Builder_Extra_156 bk o c xs sep w h1 h2 h3 h4 h5⟩
  i := ⟨fun i hi w => Any.strconv_Itoa_small Tryz.lays171 i hi w⟩
  a := ⟨fun s h v hv w => (Any.strconv_Atoi_ok Tryz.laysC172 s h v hv w).mono (by
    rintro e w' ⟨rfl, h | ⟨t, h⟩⟩
    · exact ⟨rfl, by rw [h]; exact RowKit.Below.refl _ _⟩
    · exact ⟨rfl, by rw [h]; exact Lib.bytesWorld_below _ _ _⟩)⟩

theorem extOk : CallOk Tryz.prog gl ext := extOf_ok exts
theorem tabOk : TabOk Tryz.prog tab := tabOf_ok tabA

theorem globals {W : World} (h : laidMetH Tryz.prog Rows.checkEmptyRow.laid W) : GlobalsAre W gl := by
  obtain ⟨ps, hL, _⟩ : laidMet Tryz.prog Rows.checkEmptyRow.laid W := h
  intro g
  match g with
  | 0 => exact global_at (n := 6) hL (List.mem_of_getElem? (i := 9) (by rfl)) (show Tryz.prog.globalNamed _ = some 0 by kernel_rfl) (show (Tryz.prog.globals[0]?).map (·.type) = some (Tryz.prog.globals[0]!).type by kernel_rfl) (by kernel_rfl)
  | 1 => exact global_at (n := 6) hL (List.mem_of_getElem? (i := 7) (by rfl)) (show Tryz.prog.globalNamed _ = some 1 by kernel_rfl) (show (Tryz.prog.globals[1]?).map (·.type) = some (Tryz.prog.globals[1]!).type by kernel_rfl) (by kernel_rfl)
  | 2 => exact global_at (n := 6) hL (List.mem_of_getElem? (i := 8) (by rfl)) (show Tryz.prog.globalNamed _ = some 2 by kernel_rfl) (show (Tryz.prog.globals[2]?).map (·.type) = some (Tryz.prog.globals[2]!).type by kernel_rfl) (by kernel_rfl)
  | 3 => exact global_at (n := 6) hL (List.mem_of_getElem? (i := 10) (by rfl)) (show Tryz.prog.globalNamed _ = some 3 by kernel_rfl) (show (Tryz.prog.globals[3]?).map (·.type) = some (Tryz.prog.globals[3]!).type by kernel_rfl) (by kernel_rfl)
  | 4 => exact ⟨[], fun j v hv => by simp at hv, .nil⟩
  | 5 => exact ⟨[], fun j v hv => by simp at hv, .nil⟩
  | 6 => exact ⟨[], fun j v hv => by simp at hv, .nil⟩
  | 7 => exact global_at (n := 6) hL (List.mem_of_getElem? (i := 11) (by rfl)) (show Tryz.prog.globalNamed _ = some 7 by kernel_rfl) (show (Tryz.prog.globals[7]?).map (·.type) = some (Tryz.prog.globals[7]!).type by kernel_rfl) (by kernel_rfl)
  | 8 => exact ⟨[], fun j v hv => by simp at hv, .nil⟩
  | 9 => exact ⟨[], fun j v hv => by simp at hv, .nil⟩
  | 10 => exact ⟨[], fun j v hv => by simp at hv, .nil⟩
  | 11 => exact global_at (n := 6) hL (List.mem_of_getElem? (i := 6) (by rfl)) (show Tryz.prog.globalNamed _ = some 11 by kernel_rfl) (show (Tryz.prog.globals[11]?).map (·.type) = some (Tryz.prog.globals[11]!).type by kernel_rfl) (by kernel_rfl)
  | 12 => exact ⟨[], fun j v hv => by simp at hv, .nil⟩
  | 13 => exact ⟨[], fun j v hv => by simp at hv, .nil⟩
  | n + 14 => exact ⟨[], fun j v hv => by simp at hv, .nil⟩

end Go.Proofs.YtaobjdbdpdbekaaGreatDoor
