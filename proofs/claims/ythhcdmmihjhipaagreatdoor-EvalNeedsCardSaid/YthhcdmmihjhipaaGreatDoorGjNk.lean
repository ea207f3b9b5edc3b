/-
  What the call of EvalNeeds comes to, worked out once; what the row says of it.
-/
import Derived.Test.YthhcdmmihjhipaaGreatDoorCards
import Derived.Test.YthhcdmmihjhipaaGreatDoorTie
import Derived.Test.YthhcdmmihjhipaaGreatDoorG1
import Derived.SevenTiedAt
namespace Go.Proofs.YthhcdmmihjhipaaGreatDoor
open Go Go.RowKit

set_option maxRecDepth 1000000
theorem Needs_clo : Tryz.prog.closure 3 = [3, 4, 8, 9, 22, 38, 24, 23, 10, 25, 11, 12, 13, 14, 26, 39, 27, 41, 69, 42, 43, 70, 75, 44, 71, 45, 72, 102, 154, 231, 289, 290, 103, 155, 232, 156, 157, 180, 249, 304, 341, 342, 166, 382, 383, 343, 344, 384, 385, 421, 422, 233, 158, 46, 73, 74, 104, 159, 47, 48, 49, 50, 40, 66, 51, 67, 99, 147, 224, 225, 217, 219, 220, 278, 222, 279, 319, 280, 320, 293, 332, 378, 362, 363, 364, 226, 218, 221, 223, 281, 321, 227, 282, 292, 148, 229, 178, 283, 79, 113, 112, 169, 170, 171, 172, 241, 242, 168, 238, 240, 239, 121, 183, 250, 61, 165, 184, 253, 284, 322, 366, 367, 326, 300, 336, 373, 327, 369, 370, 371, 329, 372, 330, 374, 331, 375, 376, 377, 416, 417, 418, 415, 414, 334, 365, 412, 440, 413, 441, 447, 451, 452, 453, 454, 455, 459, 460, 461, 462, 463, 457, 442, 448, 456, 458, 464, 465, 443, 450, 449, 323, 305, 324, 328, 251, 285, 325, 146, 368, 228, 100, 149, 150, 95, 151, 68, 101, 153, 28, 152, 230, 286, 287, 288, 76, 29, 52, 53, 15, 16, 33, 62, 94, 30, 31, 32, 54, 55, 56, 57, 77, 105, 160, 234, 291, 161, 162, 235, 163, 164, 236, 277, 318, 360, 271, 411, 361, 379, 419, 444, 340, 381, 420, 310, 294, 296, 295, 333, 297, 248, 303, 78, 106, 107, 108, 109, 110, 111, 167, 237, 80, 58, 81, 115, 114, 173, 116, 174, 243, 203, 118, 175, 244, 298, 176, 82, 117, 177, 245, 299, 335, 302, 339, 380, 309, 246, 301, 337, 338, 179, 247, 83, 84, 119, 181, 182, 252, 306, 85, 120, 86, 87, 122, 88, 123, 185, 186, 255, 254, 256, 187, 257, 258, 124, 125, 126, 188, 259, 59, 18, 89, 127, 90, 128, 129, 189, 60, 91, 130, 190, 131, 92, 93, 133, 195, 196, 197, 132, 191, 192, 260, 261, 307, 345, 346, 386, 423, 262, 193, 194, 134, 198, 199, 200, 263, 135, 142, 138, 205, 201, 136, 202, 137, 204, 264, 139, 206, 207, 265, 140, 208, 141, 144, 209, 210, 143, 145, 211, 212, 213, 267, 266, 214, 215, 216, 268, 308, 269, 270, 311, 347, 348, 349, 387, 424, 389, 388, 425, 399, 430, 445, 431, 390, 391, 426, 350, 394, 428, 393, 427, 395, 354, 396, 429, 397, 398, 400, 392, 312, 351, 353, 352, 355, 356, 401, 432, 402, 403, 404, 433, 405, 406, 407, 408, 434, 435, 357, 409, 436, 446, 437, 438, 439, 358, 313, 272, 314, 273, 274, 315, 359, 410, 316, 275, 276, 317, 6, 17, 34, 19, 35, 5, 7, 20, 36, 63, 64, 37, 65, 96, 97, 98, 21] := by kernel_rfl
theorem Needs_un : Tryz.prog.unfollowed 3 = true := by unfold Program.unfollowed; rw [Needs_clo]; kernel_rfl
theorem Needs_in : (Rows.evalNeedsRow.inPlace == Tryz.prog.inPlace 3) = true := by unfold Program.inPlace; rw [Needs_clo]; kernel_rfl
theorem Needs_na : (Rows.evalNeedsRow.named == Tryz.prog.varsNamed 3) = true := by unfold Program.varsNamed; rw [Needs_clo]; kernel_rfl
theorem Needs_re : Tryz.prog.recurses 3 = true := by unfold Program.recurses; rw [Needs_un]; rfl
theorem Needs_named : Tryz.prog.funcNamed Rows.evalNeedsRow.func = some 3 := by kernel_rfl
theorem Needs_nogo : Tryz.prog.goes 3 = false := by unfold Program.goes; rw [Needs_clo, Needs_un]; kernel_rfl
theorem Needs_gofrom : Tryz.prog.goesFrom Rows.evalNeedsRow.func = false := by
  unfold Program.goesFrom
  rw [Needs_named, Option.any_some]
  exact Needs_nogo
theorem Needs_goes : false = Rows.evalNeedsRow.goesBy Tryz.prog := by
  unfold OpenClaim.goesBy Program.goesAt
  rw [Needs_gofrom]
  kernel_rfl
theorem Needs_looks : true = Tryz.prog.looks [] := by kernel_rfl
theorem Needs_main : Tryz.prog.mainIs = some (true, "4c7bb278da007780f821faab8259d86923a487d1dd9facaafb1ace535a410064".toList) := by kernel_rfl
theorem Needs_closed : joinedFacts Tryz.prog 3 Tryz.f3 Rows.evalNeedsSpec Rows.evalNeedsRow = true := by
  unfold joinedFacts
  rw [Tryz.laidOut, Needs_in, Needs_na, Needs_un, Needs_re]
  kernel_rfl
end Go.Proofs.YthhcdmmihjhipaaGreatDoor
