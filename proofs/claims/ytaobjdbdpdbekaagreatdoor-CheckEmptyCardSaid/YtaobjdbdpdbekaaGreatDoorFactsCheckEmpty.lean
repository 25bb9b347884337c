/- Closed facts of the row. Conditions: none. -/
import Derived.Test.YtaobjdbdpdbekaaGreatDoorRows
import Derived.JoinedCond
import Derived.KernelRfl
import Derived.SevenTiedAt
import Derived.WalkKit
import Derived.ProofKit
import Derived.Deep.DeepHandedRow
import Derived.Test.YtaobjdbdpdbekaaGreatDoorV5
set_option maxRecDepth 100000
namespace Go.Proofs.YtaobjdbdpdbekaaGreatDoor
open Go Go.ChangeShapes Go.WideShapes Go.ChangeAt Go.RowKit

theorem laidOut : laidOutB Tryz.prog = true := by kernel_rfl
theorem cl : Tryz.prog.closure 6 = [6, 21, 11, 42, 13, 48, 83, 120, 97, 148, 179, 222, 47, 49, 99, 151, 204, 248, 301, 302, 267, 331, 332, 303, 304, 333, 334, 348, 349, 98, 149, 203, 150, 100, 101, 152, 205, 206, 103, 153, 211, 154, 249, 251, 250, 207, 208, 209, 210, 102, 10, 39, 84, 121, 180, 181, 122, 182, 183, 184, 185, 223, 268, 312, 336, 337, 224, 269, 313, 270, 271, 314, 272, 186, 187, 225, 226, 227, 70, 111, 40, 85, 123, 188, 191, 90, 86, 124, 132, 89, 126, 125, 127, 87, 128, 129, 131, 189, 228, 130, 190, 229, 274, 316, 339, 273, 350, 351, 353, 354, 355, 356, 357, 358, 359, 360, 315, 338, 230, 231, 275, 232, 133, 192, 276, 233, 277, 88, 41, 50, 51, 19, 55, 104, 20, 56, 57, 59, 58, 60, 61, 62, 43, 44, 91, 135, 134, 193, 31, 69, 110, 162, 163, 213, 164, 214, 253, 305, 254, 255, 256, 306, 71, 112, 72, 113, 73, 114, 165, 115, 22, 64, 63, 92, 82, 119, 177, 178, 136, 194, 234, 278, 317, 340, 318, 341, 279, 138, 137, 195, 139, 196, 45, 93, 94, 141, 65, 140, 118, 144, 199, 143, 197, 235, 198, 221, 266, 236, 280, 286, 109, 281, 319, 282, 308, 309, 283, 320, 321, 342, 284, 285, 287, 288, 142, 145, 29, 67, 68, 66, 108, 160, 161, 212, 252, 95, 54, 46, 96, 146, 147, 200, 238, 237, 201, 239, 290, 291, 289, 322, 240, 241, 292, 293, 323, 343, 352, 175, 105, 202, 242, 294, 295, 324, 325, 344, 346, 345, 299, 329, 328, 326, 243, 297, 296, 327, 244, 298, 245, 246, 300, 330, 347, 247, 17, 52, 53, 106, 107, 155, 156, 157, 158, 159, 16, 18, 14, 23, 24, 9, 12, 38] := by kernel_rfl
theorem un : Tryz.prog.unfollowed 6 = true := by unfold Program.unfollowed; rw [cl]; kernel_rfl
theorem jt1 : (Rows.checkEmptyRow.inPlace == Tryz.prog.inPlace 6) = true := by unfold Program.inPlace; rw [cl]; kernel_rfl
theorem jt2 : (Rows.checkEmptyRow.unfollowed == Tryz.prog.unfollowed 6) = true := by rw [un]; rfl
theorem jt3 : (Rows.checkEmptyRow.recurses == Tryz.prog.recurses 6) = true := by unfold Program.recurses; rw [un]; rfl
theorem jt4 : (Rows.checkEmptyRow.named == Tryz.prog.varsNamed 6) = true := by unfold Program.varsNamed; rw [cl]; kernel_rfl
theorem jt5 : mapsRowed Tryz.prog = true := by kernel_rfl
theorem closedT : joinedFacts Tryz.prog 6 Tryz.f6 (OpenSpec.ofChange Rows.checkEmptySpec).bare Rows.checkEmptyRow = true := by
  simp only [joinedFacts, Bool.and_eq_true]
  and_intros
  all_goals first
    | with_reducible exact jt1
    | with_reducible exact jt2
    | with_reducible exact jt3
    | with_reducible exact jt4
    | with_reducible exact jt5
    | with_reducible exact laidOut
    | kernel_rfl

theorem ct1 : Rows.checkEmptyRow.wfByText (OpenSpec.ofChange Rows.checkEmptySpec) = true := by kernel_rfl
theorem ct2 : Tryz.pinned.checked.prog.mainIs = some (true, ("16ac9fd766a940493da2ea731629e89293bfdfaa8a4b0b6e877819092a4a148f").toList) := by kernel_rfl
theorem noGo : (Tryz.prog.funcs.any Func.goes) = false := by kernel_rfl
theorem ct3 : false = Rows.checkEmptyRow.goesBy Tryz.pinned.checked.prog := Vm.goes_none _ _ rfl (Vm.goes_of _ noGo)

end Go.Proofs.YtaobjdbdpdbekaaGreatDoor
