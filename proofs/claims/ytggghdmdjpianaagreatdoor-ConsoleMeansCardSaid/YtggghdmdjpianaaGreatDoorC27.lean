/- A part of the proof: Cfm. -/
import Derived.Test.YtggghdmdjpianaaGreatDoorC26
set_option linter.unusedSimpArgs false
set_option linter.unusedVariables false
namespace Go.Proofs.YtggghdmdjpianaaGreatDoor
open Go Go.Ab Go.ChangeShapes Go.WideShapes Go.ChangeAt Go.RowKit
theorem Kpa : (Rows.consoleMeansRow.inPlace == Tryz.prog.inPlace 3) = true := by kernel_rfl
theorem c3_unf : (Rows.consoleMeansRow.unfollowed == Tryz.prog.unfollowed 3) = true := by kernel_rfl
theorem c3_rec : (Rows.consoleMeansRow.recurses == Tryz.prog.recurses 3) = true := by kernel_rfl
def clA0 : List Nat := [3, 4, 6, 5, 9, 10, 17, 34, 80, 119, 128, 129, 35, 82, 56, 87, 81, 130, 36, 37, 38, 83, 39, 85, 132, 131, 191, 258, 340, 133, 134, 84, 40, 86, 135, 192, 259, 341, 342, 421, 260, 343, 261, 339, 417, 491, 418, 419, 420, 492, 136, 193, 186, 257, 262, 345, 344, 346, 348, 354]
def clA1 : List Nat := [347, 350, 422, 493, 357, 352, 423, 424, 349, 263, 351, 264, 353, 265, 355, 425, 284, 194, 266, 150, 210, 117, 356, 427, 494, 530, 531, 293, 242, 199, 273, 325, 408, 141, 495, 146, 426, 267, 195, 268, 269, 196, 270, 271, 272, 282, 275, 359, 88, 137, 41, 89, 139, 198, 138, 197, 90, 140, 142, 143]
def clA2 : List Nat := [200, 202, 144, 201, 274, 358, 321, 322, 404, 403, 405, 323, 324, 406, 407, 487, 488, 145, 203, 276, 100, 163, 238, 204, 277, 360, 42, 91, 97, 155, 156, 220, 297, 221, 222, 298, 219, 223, 224, 299, 395, 480, 481, 524, 526, 525, 552, 482, 483, 154, 217, 294, 295, 296, 389, 390, 391, 392, 394, 393]
def clA3 : List Nat := [396, 218, 157, 225, 226, 300, 227, 301, 397, 302, 398, 147, 148, 205, 98, 158, 228, 303, 229, 304, 231, 232, 230, 305, 306, 159, 233, 307, 308, 313, 399, 309, 310, 311, 234, 312, 235, 278, 279, 361, 362, 206, 207, 209, 283, 367, 453, 497, 498, 532, 454, 499, 533, 368, 208, 280, 363, 428, 429, 430]
def clA4 : List Nat := [431, 496, 432, 281, 364, 433, 434, 365, 435, 436, 437, 438, 439, 440, 441, 442, 443, 444, 445, 446, 447, 448, 449, 450, 451, 366, 452, 149, 43, 92, 93, 151, 152, 211, 212, 213, 286, 371, 372, 458, 460, 459, 461, 462, 463, 373, 464, 506, 507, 543, 544, 554, 555, 545, 556, 557, 374, 508, 546, 547]
def clA5 : List Nat := [509, 548, 549, 285, 369, 455, 500, 534, 401, 484, 485, 486, 469, 510, 456, 501, 535, 536, 457, 502, 472, 471, 511, 537, 538, 503, 539, 540, 541, 542, 505, 504, 288, 378, 473, 474, 512, 513, 550, 514, 380, 379, 381, 370, 214, 287, 375, 465, 466, 468, 376, 467, 470, 377, 289, 382, 383, 475, 476, 515]
def clA6 : List Nat := [477, 516, 517, 519, 518, 520, 478, 384, 44, 95, 94, 153, 216, 215, 290, 291, 385, 386, 387, 388, 479, 521, 522, 551, 523, 292, 96, 45, 99, 160, 236, 314, 315, 161, 162, 237, 316, 317, 320, 402, 400, 318, 319, 46, 101, 164, 240, 239, 47, 102, 165, 241, 169, 245, 246, 48, 103, 166, 243, 49]
def clA7 : List Nat := [104, 167, 244, 326, 327, 409, 50, 105, 168, 106, 170, 248, 332, 247, 328, 410, 330, 331, 329, 107, 171, 108, 109, 51, 52, 110, 118, 116, 112, 172, 249, 333, 411, 412, 334, 250, 111, 53, 113, 114, 173, 251, 254, 335, 174, 175, 176, 177, 252, 336, 413, 337, 414, 115, 178, 253, 179, 255, 180, 181]
def clA8 : List Nat := [256, 338, 415, 416, 489, 527, 490, 528, 553, 529, 182, 183, 184, 185, 18, 54, 55, 57, 19, 7, 11, 20, 58, 21, 59, 60, 61, 63, 62, 64, 12, 22, 65, 23, 25, 66, 24, 26, 67, 120, 121, 187, 123, 188, 189, 122, 13, 14, 27, 28, 68, 69, 29, 70, 124, 190, 8, 15, 30, 72]
def clA9 : List Nat := [71, 125, 73, 74, 126, 75, 31, 16, 32, 76, 77, 33, 78, 127, 79]
def clL : List Nat := clA0 ++ (clA1 ++ (clA2 ++ (clA3 ++ (clA4 ++ (clA5 ++ (clA6 ++ (clA7 ++ (clA8 ++ (clA9)))))))))
theorem cl3 : Tryz.prog.closure 3 = clL := by kernel_rfl
noncomputable def wK (l : List FuncId) : List Nat := l.flatMap fun g => ((Tryz.prog.funcs[g]?).bind (·.body)).elim [] Code.globalsNamed
noncomputable def wM (l : List FuncId) : List String := l.filterMap fun g => (Tryz.prog.funcs[g]?).bind fun fn => if fn.body.isNone then entryReads.lookup fn.name else none
theorem MJ (a b : List FuncId) : wK (a ++ b) = wK a ++ wK b := by simp [wK]
theorem MY (a b : List FuncId) : wM (a ++ b) = wM a ++ wM b := by simp [wM]
theorem gNm_0 : wK clA0 = [0, 0, 0, 1, 6, 7, 4, 4, 4] := by kernel_rfl
theorem eNm_0 : wM clA0 = ["internal/bytealg.MaxLen"] := by kernel_rfl
theorem gNm_1 : wK clA1 = [] := by kernel_rfl
theorem eNm_1 : wM clA1 = [] := by kernel_rfl
theorem gNm_2 : wK clA2 = [3, 8, 9, 2, 2] := by kernel_rfl
theorem eNm_2 : wM clA2 = [] := by kernel_rfl
theorem gNm_3 : wK clA3 = [5] := by kernel_rfl
theorem eNm_3 : wM clA3 = [] := by kernel_rfl
theorem gNm_4 : wK clA4 = [] := by kernel_rfl
theorem eNm_4 : wM clA4 = [] := by kernel_rfl
theorem gNm_5 : wK clA5 = [] := by kernel_rfl
theorem eNm_5 : wM clA5 = [] := by kernel_rfl
theorem gNm_6 : wK clA6 = [] := by kernel_rfl
theorem eNm_6 : wM clA6 = [] := by kernel_rfl
theorem gNm_7 : wK clA7 = [] := by kernel_rfl
theorem eNm_7 : wM clA7 = [] := by kernel_rfl
theorem gNm_8 : wK clA8 = [] := by kernel_rfl
theorem eNm_8 : wM clA8 = [] := by kernel_rfl
theorem gNm_9 : wK clA9 = [] := by kernel_rfl
theorem eNm_9 : wM clA9 = [] := by kernel_rfl
theorem ML : wK clL = [0, 0, 0, 1, 6, 7, 4, 4, 4, 3, 8, 9, 2, 2, 5] := by
  unfold clL
  simp only [MJ, gNm_0, gNm_1, gNm_2, gNm_3, gNm_4, gNm_5, gNm_6, gNm_7, gNm_8, gNm_9]
  rfl
theorem MZ : wM clL = ["internal/bytealg.MaxLen"] := by
  unfold clL
  simp only [MY, eNm_0, eNm_1, eNm_2, eNm_3, eNm_4, eNm_5, eNm_6, eNm_7, eNm_8, eNm_9]
  rfl
theorem Kqa : (Rows.consoleMeansRow.named == Tryz.prog.varsNamed 3) = true := by
  show (Rows.consoleMeansRow.named == (((wK (Tryz.prog.closure 3)).eraseDups).filterMap (fun g => (Tryz.prog.globals[g]?).map (·.name)) ++ wM (Tryz.prog.closure 3)).eraseDups) = true
  rw [cl3, ML, MZ]
  kernel_rfl
theorem NK : (Rows.consoleMeansRow.plainKeys == Tryz.prog.plainKeys) = true := by kernel_rfl
theorem E6a : (Rows.consoleMeansRow.lifted == Tryz.prog.liftsFinal) = true := by kernel_rfl
theorem NJ : (Tryz.prog.make == some Rows.consoleMeansRow.make) = true := by kernel_rfl
theorem LG : joinedFacts Tryz.prog 3 Tryz.f3 Rows.consoleMeansSpec Rows.consoleMeansRow = true := by
  unfold joinedFacts
  simp only [Bool.and_eq_true]
  repeat' apply And.intro
  all_goals first
    | with_reducible exact Ri
    | with_reducible exact IX
    | with_reducible exact LY
    | with_reducible exact MX
    | with_reducible exact Kpa
    | with_reducible exact c3_unf
    | with_reducible exact c3_rec
    | with_reducible exact Kqa
    | with_reducible exact NK
    | with_reducible exact E6a
    | with_reducible exact NJ
    | (as_aux_lemma => kernel_rfl)
end Go.Proofs.YtggghdmdjpianaaGreatDoor
