/-
  What the call of FuncsChoice comes to, worked out once; what the row says of it.
-/
import Derived.Test.YtifoddpbmlajfaaGreatDoorCards
import Derived.Test.YtifoddpbmlajfaaGreatDoorTie
import Derived.Test.YtifoddpbmlajfaaGreatDoorG1
import Derived.SevenTiedAt
namespace Go.Proofs.YtifoddpbmlajfaaGreatDoor
open Go Go.RowKit

set_option maxRecDepth 1000000
theorem Choice_clo : Tryz.prog.closure 3 = [3, 5, 7, 8, 26, 36, 27, 17, 10, 18, 9, 28, 19, 32, 39, 55, 40, 24, 33, 34, 42, 64, 65, 66, 111, 155, 160, 214, 211, 262, 331, 369, 199, 258, 156, 157, 212, 257, 158, 213, 226, 159, 161, 215, 142, 200, 259, 136, 328, 260, 329, 332, 370, 366, 367, 368, 383, 255, 241, 301, 326, 365, 188, 189, 263, 264, 291, 341, 376, 227, 281, 282, 228, 283, 336, 284, 285, 240, 300, 348, 377, 378, 151, 389, 390, 379, 380, 391, 392, 401, 402, 337, 286, 266, 265, 333, 267, 290, 272, 268, 269, 273, 334, 270, 274, 335, 371, 384, 271, 299, 347, 162, 174, 216, 217, 120, 175, 83, 122, 172, 176, 60, 106, 98, 148, 149, 117, 144, 201, 202, 147, 205, 207, 206, 58, 96, 143, 35, 97, 99, 150, 177, 229, 288, 289, 220, 171, 223, 276, 221, 275, 277, 279, 234, 293, 218, 278, 235, 294, 280, 295, 343, 344, 345, 342, 340, 219, 287, 338, 372, 339, 373, 385, 393, 394, 395, 396, 397, 403, 404, 405, 406, 407, 399, 374, 386, 398, 400, 408, 409, 375, 388, 387, 230, 203, 231, 233, 145, 178, 232, 292, 121, 67, 41, 56, 57, 94, 95, 146, 204, 21, 59, 100, 101, 102, 103, 104, 105, 152, 208, 61, 107, 108, 153, 209, 210, 261, 330, 109, 110, 154, 74, 62, 63, 43, 68, 112, 113, 164, 163, 165, 166, 167, 168, 69, 70, 71, 114, 44, 51, 47, 80, 72, 45, 73, 46, 75, 76, 115, 77, 116, 169, 78, 79, 48, 81, 82, 118, 170, 222, 196, 256, 327, 197, 187, 119, 173, 224, 237, 296, 346, 225, 49, 84, 123, 180, 179, 236, 181, 183, 131, 22, 124, 182, 238, 297, 239, 298, 23, 125, 126, 127, 128, 129, 130, 184, 185, 85, 50, 53, 86, 87, 52, 54, 88, 89, 90, 132, 37, 91, 92, 93, 133, 186, 134, 135, 190, 242, 243, 244, 302, 349, 304, 303, 350, 314, 355, 381, 356, 305, 306, 351, 245, 309, 353, 308, 352, 310, 249, 311, 354, 312, 313, 315, 307, 191, 246, 248, 247, 250, 251, 316, 357, 317, 318, 319, 358, 320, 321, 322, 323, 359, 360, 252, 324, 361, 382, 362, 363, 364, 253, 192, 137, 193, 138, 139, 194, 254, 325, 195, 140, 141, 198, 20, 11, 6, 25] := by kernel_rfl
theorem Choice_un : Tryz.prog.unfollowed 3 = true := by unfold Program.unfollowed; rw [Choice_clo]; kernel_rfl
theorem Choice_in : (Rows.funcsChoiceRow.inPlace == Tryz.prog.inPlace 3) = true := by unfold Program.inPlace; rw [Choice_clo]; kernel_rfl
theorem Choice_na : (Rows.funcsChoiceRow.named == Tryz.prog.varsNamed 3) = true := by unfold Program.varsNamed; rw [Choice_clo]; kernel_rfl
theorem Choice_re : Tryz.prog.recurses 3 = true := by unfold Program.recurses; rw [Choice_un]; rfl
theorem Choice_named : Tryz.prog.funcNamed Rows.funcsChoiceRow.func = some 3 := by kernel_rfl
theorem Choice_nogo : Tryz.prog.goes 3 = false := by unfold Program.goes; rw [Choice_clo, Choice_un]; kernel_rfl
theorem Choice_gofrom : Tryz.prog.goesFrom Rows.funcsChoiceRow.func = false := by
  unfold Program.goesFrom
  rw [Choice_named, Option.any_some]
  exact Choice_nogo
theorem Choice_goes : false = Rows.funcsChoiceRow.goesBy Tryz.prog := by
  unfold OpenClaim.goesBy Program.goesAt
  rw [Choice_gofrom]
  kernel_rfl
theorem Choice_looks : true = Tryz.prog.looks [] := by kernel_rfl
theorem Choice_main : Tryz.prog.mainIs = some (true, "2e439e6d42ee5c2567b933df5c8e958ca161026b9b8deee592f5b80075035014".toList) := by kernel_rfl
theorem Choice_closed : joinedFacts Tryz.prog 3 Tryz.f3 Rows.funcsChoiceSpec Rows.funcsChoiceRow = true := by
  unfold joinedFacts
  rw [Tryz.laidOut, Choice_in, Choice_na, Choice_un, Choice_re]
  kernel_rfl
end Go.Proofs.YtifoddpbmlajfaaGreatDoor
