/- Closed facts of the row. Conditions: none. -/
import Derived.Test.YticclabeamioiaaGreatDoorRows
import Derived.JoinedCond
import Derived.KernelRfl
import Derived.SevenTiedAt
import Derived.WalkKit
import Derived.ProofKit
import Derived.Deep.DeepHandedRow
import Derived.Test.YticclabeamioiaaGreatDoorV5
set_option maxRecDepth 100000
namespace Go.Proofs.YticclabeamioiaaGreatDoor
open Go Go.ChangeShapes Go.WideShapes Go.ChangeAt Go.RowKit

theorem laidOut : laidOutB Tryz.prog = true := by kernel_rfl
theorem cl : Tryz.prog.closure 3 = [3, 4, 5, 6, 9, 22, 57, 58, 102, 138, 197, 136, 194, 255, 301, 101, 103, 139, 198, 256, 302, 341, 342, 183, 369, 370, 343, 344, 371, 372, 389, 390, 137, 195, 254, 196, 140, 141, 199, 257, 258, 143, 200, 263, 201, 303, 305, 304, 259, 260, 261, 262, 142, 59, 106, 147, 208, 264, 265, 209, 266, 267, 268, 269, 306, 345, 373, 391, 392, 307, 346, 374, 347, 348, 375, 349, 270, 271, 308, 309, 310, 223, 278, 107, 148, 210, 272, 275, 153, 149, 211, 219, 152, 213, 212, 214, 150, 215, 216, 218, 273, 311, 217, 274, 312, 351, 377, 394, 350, 397, 398, 399, 400, 401, 402, 403, 404, 405, 406, 376, 393, 313, 314, 352, 315, 220, 276, 353, 316, 354, 151, 108, 104, 105, 67, 119, 144, 145, 202, 203, 204, 146, 205, 206, 207, 60, 61, 109, 155, 154, 221, 156, 222, 277, 317, 318, 355, 319, 356, 378, 395, 379, 380, 381, 396, 224, 279, 225, 280, 226, 281, 320, 282, 65, 116, 115, 110, 157, 227, 283, 284, 158, 228, 285, 321, 357, 382, 358, 383, 322, 160, 159, 229, 161, 230, 62, 111, 112, 163, 164, 162, 231, 167, 234, 166, 232, 286, 233, 121, 182, 287, 323, 329, 122, 324, 359, 325, 243, 244, 326, 360, 361, 384, 327, 328, 330, 331, 165, 168, 92, 135, 72, 134, 193, 252, 253, 300, 340, 113, 169, 63, 114, 170, 171, 235, 289, 288, 79, 124, 185, 186, 184, 247, 125, 126, 187, 188, 248, 297, 339, 71, 127, 236, 290, 332, 333, 362, 363, 385, 387, 386, 337, 367, 366, 364, 291, 335, 334, 365, 292, 336, 293, 294, 338, 368, 388, 295, 7, 10, 23, 25, 26, 64, 76, 95, 117, 123, 34, 77, 66, 118, 172, 173, 237, 238, 239, 240, 241, 24, 28, 27, 29, 30, 31, 40, 33, 75, 32, 68, 70, 73, 69, 120, 174, 175, 242, 176, 177, 245, 246, 296, 178, 179, 180, 181, 74, 11, 35, 78, 36, 80, 128, 189, 12, 37, 13, 14, 39, 38, 15, 42, 41, 43, 16, 45, 44, 81, 46, 82, 129, 190, 191, 249, 250, 251, 96, 299, 298, 93, 84, 132, 83, 47, 86, 49, 88, 131, 130, 192, 85, 17, 48, 87, 19, 51, 50, 89, 18, 20, 52, 90, 133, 8, 21, 53, 54, 91, 94, 55, 56, 97, 98, 99, 100] := by kernel_rfl
theorem un : Tryz.prog.unfollowed 3 = true := by unfold Program.unfollowed; rw [cl]; kernel_rfl
theorem jt1 : (Rows.freshAgainRow.inPlace == Tryz.prog.inPlace 3) = true := by unfold Program.inPlace; rw [cl]; kernel_rfl
theorem jt2 : (Rows.freshAgainRow.unfollowed == Tryz.prog.unfollowed 3) = true := by rw [un]; rfl
theorem jt3 : (Rows.freshAgainRow.recurses == Tryz.prog.recurses 3) = true := by unfold Program.recurses; rw [un]; rfl
theorem jt4 : (Rows.freshAgainRow.named == Tryz.prog.varsNamed 3) = true := by unfold Program.varsNamed; rw [cl]; kernel_rfl
theorem jt5 : mapsRowed Tryz.prog = true := by kernel_rfl
theorem closedT : joinedFacts Tryz.prog 3 Tryz.f3 (OpenSpec.ofChange Rows.freshAgainSpec).bare Rows.freshAgainRow = true := by
  simp only [joinedFacts, Bool.and_eq_true]
  and_intros
  all_goals first
    | with_reducible exact jt1
    | with_reducible exact jt2
    | with_reducible exact jt3
    | with_reducible exact jt4
    | with_reducible exact jt5
    | with_reducible exact laidOut
    | kernel_rfl

theorem ct1 : Rows.freshAgainRow.wfByText (OpenSpec.ofChange Rows.freshAgainSpec) = true := by kernel_rfl
theorem ct2 : Tryz.pinned.checked.prog.mainIs = some (true, ("eee515a84d7778fc207775b21fa46cc1e073d2b9d86d616eba1dea4cf0fa38aa").toList) := by kernel_rfl
theorem noGo : (Tryz.prog.funcs.any Func.goes) = false := by kernel_rfl
theorem ct3 : false = Rows.freshAgainRow.goesBy Tryz.pinned.checked.prog := Vm.goes_none _ _ rfl (Vm.goes_of _ noGo)

end Go.Proofs.YticclabeamioiaaGreatDoor
