/-
  What the call of FileQuotes comes to, worked out once; what the row says of it.
-/
import Derived.Test.YtlhpnccdfgjifaaGreatDoorCards
import Derived.Test.YtlhpnccdfgjifaaGreatDoorTie
import Derived.Test.YtlhpnccdfgjifaaGreatDoorGjTk
import Derived.Test.YtlhpnccdfgjifaaGreatDoorGjUk
import Derived.Test.YtlhpnccdfgjifaaGreatDoorG1
import Derived.SevenTiedAt
namespace Go.Proofs.YtlhpnccdfgjifaaGreatDoor
open Go Go.RowKit

set_option maxRecDepth 1000000
theorem Quotes_clo : Tryz.prog.closure 3 = [3, 4, 9, 23, 55, 56, 105, 152, 77, 76, 106, 107, 182, 24, 10, 25, 26, 57, 108, 183, 109, 117, 194, 184, 15, 49, 51, 185, 263, 186, 161, 235, 292, 52, 98, 99, 53, 100, 180, 101, 102, 48, 96, 179, 256, 257, 305, 319, 320, 258, 259, 321, 322, 384, 385, 181, 103, 187, 20, 19, 54, 104, 188, 189, 92, 17, 176, 260, 190, 261, 323, 119, 196, 79, 154, 155, 156, 233, 157, 222, 288, 234, 291, 141, 218, 286, 366, 231, 230, 197, 268, 269, 270, 326, 391, 198, 271, 97, 120, 200, 245, 18, 272, 330, 329, 394, 395, 396, 397, 454, 337, 393, 451, 453, 452, 273, 331, 398, 121, 306, 332, 380, 274, 333, 400, 401, 339, 308, 376, 407, 340, 404, 405, 406, 342, 304, 343, 408, 344, 409, 410, 411, 459, 460, 461, 458, 457, 374, 399, 455, 497, 456, 498, 526, 538, 539, 540, 541, 542, 555, 556, 557, 558, 559, 544, 499, 527, 543, 545, 560, 561, 500, 529, 528, 334, 402, 335, 341, 336, 275, 338, 327, 403, 199, 324, 386, 387, 315, 388, 262, 325, 390, 110, 389, 80, 158, 159, 160, 111, 191, 192, 58, 112, 113, 62, 66, 64, 60, 93, 172, 251, 314, 45, 94, 89, 166, 167, 240, 307, 375, 246, 310, 379, 163, 237, 294, 22, 311, 242, 243, 309, 377, 450, 496, 525, 378, 244, 241, 168, 173, 252, 316, 317, 253, 153, 232, 290, 174, 42, 87, 88, 175, 254, 84, 59, 61, 114, 193, 264, 115, 16, 50, 116, 118, 195, 265, 266, 34, 78, 267, 328, 392, 63, 122, 201, 276, 345, 123, 65, 27, 28, 30, 68, 128, 204, 129, 130, 205, 67, 41, 124, 202, 125, 126, 203, 127, 31, 32, 75, 70, 132, 139, 216, 285, 362, 85, 148, 224, 164, 239, 238, 295, 301, 373, 296, 368, 297, 369, 370, 298, 371, 372, 449, 299, 300, 302, 303, 210, 279, 213, 280, 140, 217, 69, 133, 131, 147, 134, 206, 277, 278, 207, 209, 208, 211, 135, 136, 212, 137, 214, 138, 215, 281, 346, 347, 412, 413, 414, 415, 416, 417, 462, 501, 348, 282, 349, 419, 418, 420, 422, 350, 421, 463, 464, 502, 351, 352, 423, 465, 466, 503, 530, 353, 424, 354, 355, 356, 425, 467, 468, 505, 504, 506, 469, 507, 508, 426, 427, 428, 470, 509, 283, 357, 358, 429, 430, 471, 284, 359, 431, 472, 432, 360, 361, 434, 477, 478, 479, 433, 473, 474, 510, 511, 531, 546, 547, 562, 573, 512, 475, 476, 435, 480, 481, 365, 447, 436, 443, 439, 485, 482, 437, 483, 438, 484, 513, 440, 486, 487, 514, 441, 488, 442, 445, 489, 444, 446, 490, 491, 492, 516, 515, 493, 494, 495, 517, 532, 518, 519, 29, 71, 72, 73, 142, 219, 144, 143, 220, 221, 287, 364, 363, 145, 146, 223, 74, 149, 225, 150, 151, 226, 289, 227, 228, 229, 533, 177, 549, 548, 550, 551, 563, 574, 564, 565, 566, 575, 567, 568, 569, 570, 576, 577, 552, 571, 578, 582, 579, 580, 581, 553, 534, 520, 535, 521, 522, 536, 554, 572, 523, 524, 537, 11, 13, 12, 33, 35, 36, 40, 86, 165, 37, 81, 162, 236, 293, 367, 448, 5, 7, 82, 95, 178, 255, 318, 83, 14, 38, 39, 43, 44, 91, 171, 90, 169, 247, 248, 312, 381, 249, 170, 250, 313, 382, 383, 46, 47, 6, 21, 8] := by kernel_rfl
theorem Quotes_un : Tryz.prog.unfollowed 3 = true := by unfold Program.unfollowed; rw [Quotes_clo]; kernel_rfl
theorem Quotes_in : (Rows.fileQuotesRow.inPlace == Tryz.prog.inPlace 3) = true := by unfold Program.inPlace; rw [Quotes_clo]; kernel_rfl
theorem Quotes_na : (Rows.fileQuotesRow.named == Tryz.prog.varsNamed 3) = true := by unfold Program.varsNamed; rw [Quotes_clo]; kernel_rfl
theorem Quotes_re : Tryz.prog.recurses 3 = true := by unfold Program.recurses; rw [Quotes_un]; rfl
theorem Quotes_named : Tryz.prog.funcNamed Rows.fileQuotesRow.func = some 3 := by kernel_rfl
theorem Quotes_nogo : Tryz.prog.goes 3 = false := by unfold Program.goes; rw [Quotes_clo, Quotes_un]; kernel_rfl
theorem Quotes_gofrom : Tryz.prog.goesFrom Rows.fileQuotesRow.func = false := by
  unfold Program.goesFrom
  rw [Quotes_named, Option.any_some]
  exact Quotes_nogo
theorem Quotes_goes : false = Rows.fileQuotesRow.goesBy Tryz.prog := by
  unfold OpenClaim.goesBy Program.goesAt
  rw [Quotes_gofrom]
  kernel_rfl
theorem Quotes_main : Tryz.prog.mainIs = some (true, "ab213fc03f519edb5098ecf1c95890755887c98ed58edcf4826ecf7ae3fa6166".toList) := by kernel_rfl
theorem Quotes_closed : joinedFacts Tryz.prog 3 Tryz.f3 Rows.fileQuotesSpec Rows.fileQuotesRow = true := by
  unfold joinedFacts
  rw [Tryz.laidOut, Quotes_in, Quotes_na, Quotes_un, Quotes_re, Quotes_maps, Quotes_stops, Quotes_knobs, Quotes_pk, Quotes_heard, Quotes_lifts, Quotes_enter, Quotes_pinned, Quotes_wf]
  kernel_rfl
end Go.Proofs.YtlhpnccdfgjifaaGreatDoor
