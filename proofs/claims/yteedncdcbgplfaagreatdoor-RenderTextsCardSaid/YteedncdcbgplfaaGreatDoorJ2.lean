import Derived.Test.YteedncdcbgplfaaGreatDoorZa
import Derived.Test.YteedncdcbgplfaaGreatDoorJ1
set_option maxHeartbeats 1000000
namespace Go.Proofs.YteedncdcbgplfaaGreatDoor
open Go Go.RowKit
set_option maxRecDepth 100000

theorem qZ (l : List ItN) (ks : List Int) : zW l ks ≤ l.length := List.findIdx_le_length
theorem blZ {a : List ItN} (h : (((a.length : Nat) : Int) - 1).toNat < a.length) : a[(((a.length : Nat) : Int) - 1).toNat] = a.getD (a.length - 1) ⟨0, []⟩ := by
 rw [aiS (show a.length - 1 < a.length by omega)]; congr 1; omega

theorem bbH (l : List ItN) (gr : Bool) (sc : Int) (tl : Tail) (hl : l.length ≤ 100000) (H : Heap) : ACall Tryz.prog 83 [.agg [itS l tl, .bool gr, .int .i64 sc], .agg (beQ l)] H (fun y H' => y = .int .i64 (shp l) ∧ H' = H) := by
 have hn2 := qE l 2
 have hn3 := qE l 3
 have hn4 := qE l 4
 have hn5 := qE l 5
 have hn6 := qE l 6
 have hn7 := qE l 7
 have hn8 := qE l 8
 have hn9 := qE l 9
 refine ACall.of_body Tryz.func83 rfl Tryz.ntmps83 Tryz.results83 rfl ?_
 iterate 28 refine AX ?_
 refine AWP.seqTo 30 (.bool (decide (zO l 7 + zO l 8 > 0 ∧ zO l 2 + zO l 3 + zO l 4 + zO l 5 + zO l 6 > 0))) [2, 3, 4, 5] ?_ ?_
 ·-- region 2
  iterate 8 refine AX ?_
  refine zB (t := 37) rfl (fun hg37 => ?_) (fun hg37 => ?_)
  ·have hh37 := hg37; try simp only [decide_eq_true_eq, decide_eq_false_iff_not, Bool.not_eq_true', Bool.not_eq_false', Int.not_lt, Int.not_le, ne_eq, Decidable.not_not] at hh37
   iterate 5 refine AX ?_
   exact ⟨rfl, zP rfl (by (refine Eq.symm ?_; (try rw [hla] at hh114); first | exact decide_eq_true (by omega) | exact decide_eq_false (by first | omega | simp [*]) | exact decide_eq_decide.2 (by omega))) sX, rfl⟩
  have hh37 := hg37; try simp only [decide_eq_true_eq, decide_eq_false_iff_not, Bool.not_eq_true', Bool.not_eq_false', Int.not_lt, Int.not_le, ne_eq, Decidable.not_not] at hh37
  iterate 5 refine AX ?_
  exact ⟨rfl, zP rfl (by (refine Eq.symm ?_; (try rw [hla] at hh114); first | exact decide_eq_true (by omega) | exact decide_eq_false (by omega) | exact decide_eq_decide.2 (by first | omega | simp [*]))) sX, rfl⟩
 refine AWP.sub [(30, _), (2, _), (3, _), (4, _), (5, _)] sX ?_
 refine AWP.cx rfl (fun hc30 => ?_) (fun hc30 => ?_)
 ·iterate 10 refine AX ?_
  refine ⟨?_, rfl⟩
  show AV.int .i64 _ = AV.int .i64 (shp l)
  unfold shp
  try simp only [ha6, hb6]
  try simp only [ha5, hb5, hw3, hp3]
  first
  | (rw [if_pos hc30]; done)
  | (rw [if_neg hc30, if_pos hc41]; done)
  | (rw [if_neg hc30, if_neg hc41, if_pos hc50]; done)
  | (rw [if_neg hc30, if_neg hc41, if_neg hc50, if_pos hc64]; done)
  | (rw [if_neg hc30, if_neg hc41, if_neg hc50, if_neg hc64, if_pos hc77, if_pos hc126]; done)
  | (rw [if_neg hc30, if_neg hc41, if_neg hc50, if_neg hc64, if_pos hc77, if_neg hc126]; done)
  | (rw [if_neg hc30, if_neg hc41, if_neg hc50, if_neg hc64, if_neg hc77, if_pos hc127, if_pos hc176]; done)
  | (rw [if_neg hc30, if_neg hc41, if_neg hc50, if_neg hc64, if_neg hc77, if_pos hc127, if_neg hc176, if_pos (by omega)]; done)
  | (rw [if_neg hc30, if_neg hc41, if_neg hc50, if_neg hc64, if_neg hc77, if_pos hc127, if_neg hc176, if_neg (by omega), if_pos hc205]; done)
  | (rw [if_neg hc30, if_neg hc41, if_neg hc50, if_neg hc64, if_neg hc77, if_pos hc127, if_neg hc176, if_neg (by omega), if_neg hc205]; done)
  | (rw [if_neg hc30, if_neg hc41, if_neg hc50, if_neg hc64, if_neg hc77, if_neg hc127]; done)
 refine AWP.seqTo 41 (.bool (decide (zO l 7 = 1 ∧ zO l 8 = 0))) [2, 3, 4, 5] ?_ ?_
 ·-- region 3
  iterate 5 refine AX ?_
  refine zB (t := 45) rfl (fun hg45 => ?_) (fun hg45 => ?_)
  ·have hh45 := hg45; try simp only [decide_eq_true_eq, decide_eq_false_iff_not, Bool.not_eq_true', Bool.not_eq_false', Int.not_lt, Int.not_le, ne_eq, Decidable.not_not] at hh45
   iterate 6 refine AX ?_
   exact ⟨rfl, zP rfl (by (refine Eq.symm ?_; (try rw [hla] at hh114); first | exact decide_eq_true (by omega) | exact decide_eq_false (by omega) | exact decide_eq_decide.2 (by omega))) sX, rfl⟩
  have hh45 := hg45; try simp only [decide_eq_true_eq, decide_eq_false_iff_not, Bool.not_eq_true', Bool.not_eq_false', Int.not_lt, Int.not_le, ne_eq, Decidable.not_not] at hh45
  iterate 6 refine AX ?_
  exact ⟨rfl, zP rfl (by (refine Eq.symm ?_; (try rw [hla] at hh114); first | exact decide_eq_true (by omega) | exact decide_eq_false (by omega) | exact decide_eq_decide.2 (by first | omega | simp [*]))) sX, rfl⟩
 refine AWP.sub [(41, _), (2, _), (3, _), (4, _), (5, _)] sX ?_
 refine AWP.cx rfl (fun hc41 => ?_) (fun hc41 => ?_)
 ·iterate 9 refine AX ?_
  refine ⟨?_, rfl⟩
  show AV.int .i64 _ = AV.int .i64 (shp l)
  unfold shp
  try simp only [ha6, hb6]
  try simp only [ha5, hb5, hw3, hp3]
  first
  | (rw [if_pos hc30]; done)
  | (rw [if_neg hc30, if_pos hc41]; done)
  | (rw [if_neg hc30, if_neg hc41, if_pos hc50]; done)
  | (rw [if_neg hc30, if_neg hc41, if_neg hc50, if_pos hc64]; done)
  | (rw [if_neg hc30, if_neg hc41, if_neg hc50, if_neg hc64, if_pos hc77, if_pos hc126]; done)
  | (rw [if_neg hc30, if_neg hc41, if_neg hc50, if_neg hc64, if_pos hc77, if_neg hc126]; done)
  | (rw [if_neg hc30, if_neg hc41, if_neg hc50, if_neg hc64, if_neg hc77, if_pos hc127, if_pos hc176]; done)
  | (rw [if_neg hc30, if_neg hc41, if_neg hc50, if_neg hc64, if_neg hc77, if_pos hc127, if_neg hc176, if_pos (by omega)]; done)
  | (rw [if_neg hc30, if_neg hc41, if_neg hc50, if_neg hc64, if_neg hc77, if_pos hc127, if_neg hc176, if_neg (by omega), if_pos hc205]; done)
  | (rw [if_neg hc30, if_neg hc41, if_neg hc50, if_neg hc64, if_neg hc77, if_pos hc127, if_neg hc176, if_neg (by omega), if_neg hc205]; done)
  | (rw [if_neg hc30, if_neg hc41, if_neg hc50, if_neg hc64, if_neg hc77, if_neg hc127]; done)
 refine AWP.seqTo 50 (.bool (decide (zO l 7 = 0 ∧ zO l 8 > 0 ∧ zO l 9 = 0))) [2, 3, 4, 5] ?_ ?_
 ·-- region 5
  iterate 5 refine AX ?_
  refine zB (t := 54) rfl (fun hg54 => ?_) (fun hg54 => ?_)
  ·have hh54 := hg54; try simp only [decide_eq_true_eq, decide_eq_false_iff_not, Bool.not_eq_true', Bool.not_eq_false', Int.not_lt, Int.not_le, ne_eq, Decidable.not_not] at hh54
   iterate 5 refine AX ?_
   refine zB (t := 59) rfl (fun hg59 => ?_) (fun hg59 => ?_)
   ·have hh59 := hg59; try simp only [decide_eq_true_eq, decide_eq_false_iff_not, Bool.not_eq_true', Bool.not_eq_false', Int.not_lt, Int.not_le, ne_eq, Decidable.not_not] at hh59
    iterate 6 refine AX ?_
    exact ⟨rfl, zP rfl (by (refine Eq.symm ?_; (try rw [hla] at hh114); first | exact decide_eq_true (by omega) | exact decide_eq_false (by omega) | exact decide_eq_decide.2 (by omega))) sX, rfl⟩
   have hh59 := hg59; try simp only [decide_eq_true_eq, decide_eq_false_iff_not, Bool.not_eq_true', Bool.not_eq_false', Int.not_lt, Int.not_le, ne_eq, Decidable.not_not] at hh59
   iterate 6 refine AX ?_
   exact ⟨rfl, zP rfl (by (refine Eq.symm ?_; (try rw [hla] at hh114); first | exact decide_eq_true (by omega) | exact decide_eq_false (by omega) | exact decide_eq_decide.2 (by first | omega | simp [*]))) sX, rfl⟩
  have hh54 := hg54; try simp only [decide_eq_true_eq, decide_eq_false_iff_not, Bool.not_eq_true', Bool.not_eq_false', Int.not_lt, Int.not_le, ne_eq, Decidable.not_not] at hh54
  iterate 11 refine AX ?_
  exact ⟨rfl, zP rfl (by (refine Eq.symm ?_; (try rw [hla] at hh114); first | exact decide_eq_true (by omega) | exact decide_eq_false (by omega) | exact decide_eq_decide.2 (by first | omega | simp [*]))) sX, rfl⟩
 refine AWP.sub [(50, _), (2, _), (3, _), (4, _), (5, _)] sX ?_
 refine AWP.cx rfl (fun hc50 => ?_) (fun hc50 => ?_)
 ·iterate 9 refine AX ?_
  refine ⟨?_, rfl⟩
  show AV.int .i64 _ = AV.int .i64 (shp l)
  unfold shp
  try simp only [ha6, hb6]
  try simp only [ha5, hb5, hw3, hp3]
  first
  | (rw [if_pos hc30]; done)
  | (rw [if_neg hc30, if_pos hc41]; done)
  | (rw [if_neg hc30, if_neg hc41, if_pos hc50]; done)
  | (rw [if_neg hc30, if_neg hc41, if_neg hc50, if_pos hc64]; done)
  | (rw [if_neg hc30, if_neg hc41, if_neg hc50, if_neg hc64, if_pos hc77, if_pos hc126]; done)
  | (rw [if_neg hc30, if_neg hc41, if_neg hc50, if_neg hc64, if_pos hc77, if_neg hc126]; done)
  | (rw [if_neg hc30, if_neg hc41, if_neg hc50, if_neg hc64, if_neg hc77, if_pos hc127, if_pos hc176]; done)
  | (rw [if_neg hc30, if_neg hc41, if_neg hc50, if_neg hc64, if_neg hc77, if_pos hc127, if_neg hc176, if_pos (by omega)]; done)
  | (rw [if_neg hc30, if_neg hc41, if_neg hc50, if_neg hc64, if_neg hc77, if_pos hc127, if_neg hc176, if_neg (by omega), if_pos hc205]; done)
  | (rw [if_neg hc30, if_neg hc41, if_neg hc50, if_neg hc64, if_neg hc77, if_pos hc127, if_neg hc176, if_neg (by omega), if_neg hc205]; done)
  | (rw [if_neg hc30, if_neg hc41, if_neg hc50, if_neg hc64, if_neg hc77, if_neg hc127]; done)
 refine AWP.seqTo 64 (.bool (decide (zO l 7 = 0 ∧ zO l 8 = 0 ∧ zO l 2 + zO l 3 + zO l 4 + zO l 5 + zO l 6 = 0))) [2, 3, 4] ?_ ?_
 ·-- region 7
  iterate 5 refine AX ?_
  refine zB (t := 68) rfl (fun hg68 => ?_) (fun hg68 => ?_)
  ·have hh68 := hg68; try simp only [decide_eq_true_eq, decide_eq_false_iff_not, Bool.not_eq_true', Bool.not_eq_false', Int.not_lt, Int.not_le, ne_eq, Decidable.not_not] at hh68
   iterate 5 refine AX ?_
   refine zB (t := 73) rfl (fun hg73 => ?_) (fun hg73 => ?_)
   ·have hh73 := hg73; try simp only [decide_eq_true_eq, decide_eq_false_iff_not, Bool.not_eq_true', Bool.not_eq_false', Int.not_lt, Int.not_le, ne_eq, Decidable.not_not] at hh73
    iterate 5 refine AX ?_
    exact ⟨rfl, zP rfl (by (refine Eq.symm ?_; (try rw [hla] at hh114); first | exact decide_eq_true (by omega) | exact decide_eq_false (by omega) | exact decide_eq_decide.2 (by omega))) sX, rfl⟩
   have hh73 := hg73; try simp only [decide_eq_true_eq, decide_eq_false_iff_not, Bool.not_eq_true', Bool.not_eq_false', Int.not_lt, Int.not_le, ne_eq, Decidable.not_not] at hh73
   iterate 5 refine AX ?_
   exact ⟨rfl, zP rfl (by (refine Eq.symm ?_; (try rw [hla] at hh114); first | exact decide_eq_true (by omega) | exact decide_eq_false (by omega) | exact decide_eq_decide.2 (by first | omega | simp [*]))) sX, rfl⟩
  have hh68 := hg68; try simp only [decide_eq_true_eq, decide_eq_false_iff_not, Bool.not_eq_true', Bool.not_eq_false', Int.not_lt, Int.not_le, ne_eq, Decidable.not_not] at hh68
  iterate 10 refine AX ?_
  exact ⟨rfl, zP rfl (by (refine Eq.symm ?_; (try rw [hla] at hh114); first | exact decide_eq_true (by omega) | exact decide_eq_false (by omega) | exact decide_eq_decide.2 (by first | omega | simp [*]))) sX, rfl⟩
 refine AWP.sub [(64, _), (2, _), (3, _), (4, _)] sX ?_
 refine AWP.cx rfl (fun hc64 => ?_) (fun hc64 => ?_)
 ·iterate 9 refine AX ?_
  refine ⟨?_, rfl⟩
  show AV.int .i64 _ = AV.int .i64 (shp l)
  unfold shp
  try simp only [ha6, hb6]
  try simp only [ha5, hb5, hw3, hp3]
  first
  | (rw [if_pos hc30]; done)
  | (rw [if_neg hc30, if_pos hc41]; done)
  | (rw [if_neg hc30, if_neg hc41, if_pos hc50]; done)
  | (rw [if_neg hc30, if_neg hc41, if_neg hc50, if_pos hc64]; done)
  | (rw [if_neg hc30, if_neg hc41, if_neg hc50, if_neg hc64, if_pos hc77, if_pos hc126]; done)
  | (rw [if_neg hc30, if_neg hc41, if_neg hc50, if_neg hc64, if_pos hc77, if_neg hc126]; done)
  | (rw [if_neg hc30, if_neg hc41, if_neg hc50, if_neg hc64, if_neg hc77, if_pos hc127, if_pos hc176]; done)
  | (rw [if_neg hc30, if_neg hc41, if_neg hc50, if_neg hc64, if_neg hc77, if_pos hc127, if_neg hc176, if_pos (by omega)]; done)
  | (rw [if_neg hc30, if_neg hc41, if_neg hc50, if_neg hc64, if_neg hc77, if_pos hc127, if_neg hc176, if_neg (by omega), if_pos hc205]; done)
  | (rw [if_neg hc30, if_neg hc41, if_neg hc50, if_neg hc64, if_neg hc77, if_pos hc127, if_neg hc176, if_neg (by omega), if_neg hc205]; done)
  | (rw [if_neg hc30, if_neg hc41, if_neg hc50, if_neg hc64, if_neg hc77, if_neg hc127]; done)
 refine AWP.seqTo 77 (.bool (decide (zO l 6 = 1 ∧ zO l 3 + zO l 4 + zO l 5 = 0))) [2, 3, 4] ?_ ?_
 ·-- region 9
  iterate 5 refine AX ?_
  refine zB (t := 81) rfl (fun hg81 => ?_) (fun hg81 => ?_)
  ·have hh81 := hg81; try simp only [decide_eq_true_eq, decide_eq_false_iff_not, Bool.not_eq_true', Bool.not_eq_false', Int.not_lt, Int.not_le, ne_eq, Decidable.not_not] at hh81
   iterate 12 refine AX ?_
   exact ⟨rfl, zP rfl (by (refine Eq.symm ?_; (try rw [hla] at hh114); first | exact decide_eq_true (by omega) | exact decide_eq_false (by omega) | exact decide_eq_decide.2 (by omega))) sX, rfl⟩
  have hh81 := hg81; try simp only [decide_eq_true_eq, decide_eq_false_iff_not, Bool.not_eq_true', Bool.not_eq_false', Int.not_lt, Int.not_le, ne_eq, Decidable.not_not] at hh81
  iterate 12 refine AX ?_
  exact ⟨rfl, zP rfl (by (refine Eq.symm ?_; (try rw [hla] at hh114); first | exact decide_eq_true (by omega) | exact decide_eq_false (by omega) | exact decide_eq_decide.2 (by first | omega | simp [*]))) sX, rfl⟩
 refine AWP.sub [(77, _), (2, _), (3, _), (4, _)] sX ?_
 refine AWP.cx rfl (fun hc77 => ?_) (fun hc77 => ?_)
 ·iterate 2 refine AX ?_
  refine .p rfl (zA U52 rfl Z50 (tm rfl)) ?_
  refine AX ?_
  refine .e rfl (yU U30 Z3 V3 rfl zG (.inl rfl) ⟨rfl, rfl⟩) (.cl rfl C163 (evs2 rfl rfl) (adT l _ (by omega) [6] _ (by decide) _) ?_)
  have hqa6 := qZ l [6]
  have hea6 := List.length_take (i := zW l [6]) (l := l)
  have hfb6 := List.length_drop (i := zW l [6]) (l := l)
  generalize ha6 : l.take (zW l [6]) = a6 at *
  generalize hb6 : l.drop (zW l [6]) = b6 at *
  iterate 10 refine AX ?_
  refine .cl rfl C84 (evs1 rfl) (abQ b6 _ (by omega) _) ?_
  have hla := @blZ a6
  iterate 3 refine AX ?_
  refine AWP.seqTo 126 (.bool (decide (0 < a6.length ∧ (a6.getD (a6.length - 1) ⟨0, []⟩).kind = 2 ∧ zO a6 2 ≤ 30 ∧ 1 ≤ zO b6 2 ∧ zO b6 2 ≤ 4))) [2, 3, 4] ?_ ?_
  ·-- region 12
   iterate 5 refine AX ?_
   refine zB (t := 104) rfl (fun hg104 => ?_) (fun hg104 => ?_)
   ·have hh104 := hg104; try simp only [decide_eq_true_eq, decide_eq_false_iff_not, Bool.not_eq_true', Bool.not_eq_false', Int.not_lt, Int.not_le, ne_eq, Decidable.not_not] at hh104
    iterate 5 refine AX ?_
    refine .gp rfl rfl rfl (by assumption) (zA U57 rfl Z3 (tm rfl)) ?_
    iterate 4 refine AX ?_
    refine zB (t := 114) rfl (fun hg114 => ?_) (fun hg114 => ?_)
    ·have hh114 := hg114; try simp only [decide_eq_true_eq, decide_eq_false_iff_not, Bool.not_eq_true', Bool.not_eq_false', Int.not_lt, Int.not_le, ne_eq, Decidable.not_not] at hh114
     refine AX ?_
     refine .gs rfl rfl rfl (by assumption) (zE C84 (evs1 rfl) (abQ _ _ (by omega) _)) ?_
     rintro _ _ ⟨rfl, hH⟩
     obtain rfl := hH.symm
     iterate 3 refine AX ?_
     refine zB (t := 119) rfl (fun hg119 => ?_) (fun hg119 => ?_)
     ·have hh119 := hg119; try simp only [decide_eq_true_eq, decide_eq_false_iff_not, Bool.not_eq_true', Bool.not_eq_false', Int.not_lt, Int.not_le, ne_eq, Decidable.not_not] at hh119
      iterate 4 refine AX ?_
      refine zB (t := 123) rfl (fun hg123 => ?_) (fun hg123 => ?_)
      ·have hh123 := hg123; try simp only [decide_eq_true_eq, decide_eq_false_iff_not, Bool.not_eq_true', Bool.not_eq_false', Int.not_lt, Int.not_le, ne_eq, Decidable.not_not] at hh123
       iterate 4 refine AX ?_
       exact ⟨rfl, zP rfl (by (refine Eq.symm ?_; (try rw [hla] at hh114); first | exact decide_eq_true (by omega) | exact decide_eq_false (by omega) | exact decide_eq_decide.2 (by omega))) sX, rfl⟩
      have hh123 := hg123; try simp only [decide_eq_true_eq, decide_eq_false_iff_not, Bool.not_eq_true', Bool.not_eq_false', Int.not_lt, Int.not_le, ne_eq, Decidable.not_not] at hh123
      iterate 4 refine AX ?_
      exact ⟨rfl, zP rfl (by (refine Eq.symm ?_; (try rw [hla] at hh114); first | exact decide_eq_true (by omega) | exact decide_eq_false (by omega) | exact decide_eq_decide.2 (by first | omega | simp [*]))) sX, rfl⟩
     have hh119 := hg119; try simp only [decide_eq_true_eq, decide_eq_false_iff_not, Bool.not_eq_true', Bool.not_eq_false', Int.not_lt, Int.not_le, ne_eq, Decidable.not_not] at hh119
     iterate 8 refine AX ?_
     exact ⟨rfl, zP rfl (by (refine Eq.symm ?_; (try rw [hla] at hh114); first | exact decide_eq_true (by omega) | exact decide_eq_false (by omega) | exact decide_eq_decide.2 (by first | omega | simp [*]))) sX, rfl⟩
    have hh114 := hg114; try simp only [decide_eq_true_eq, decide_eq_false_iff_not, Bool.not_eq_true', Bool.not_eq_false', Int.not_lt, Int.not_le, ne_eq, Decidable.not_not] at hh114
    iterate 13 refine AX ?_
    exact ⟨rfl, zP rfl (by (refine Eq.symm ?_; (try rw [hla] at hh114); first | exact decide_eq_true (by omega) | exact decide_eq_false (by omega) | exact decide_eq_decide.2 (by first | omega | simp [*]))) sX, rfl⟩
   have hh104 := hg104; try simp only [decide_eq_true_eq, decide_eq_false_iff_not, Bool.not_eq_true', Bool.not_eq_false', Int.not_lt, Int.not_le, ne_eq, Decidable.not_not] at hh104
   iterate 23 refine AX ?_
   exact ⟨rfl, zP rfl (by (refine Eq.symm ?_; (try rw [hla] at hh114); first | exact decide_eq_true (by omega) | exact decide_eq_false (by omega) | exact decide_eq_decide.2 (by first | omega | simp [*]))) sX, rfl⟩
  refine AWP.sub [(126, _), (2, _), (3, _), (4, _)] sX ?_
  refine AWP.cx rfl (fun hc126 => ?_) (fun hc126 => ?_)
  ·iterate 9 refine AX ?_
   refine ⟨?_, rfl⟩
   show AV.int .i64 _ = AV.int .i64 (shp l)
   unfold shp
   try simp only [ha6, hb6]
   try simp only [ha5, hb5, hw3, hp3]
   first
   | (rw [if_pos hc30]; done)
   | (rw [if_neg hc30, if_pos hc41]; done)
   | (rw [if_neg hc30, if_neg hc41, if_pos hc50]; done)
   | (rw [if_neg hc30, if_neg hc41, if_neg hc50, if_pos hc64]; done)
   | (rw [if_neg hc30, if_neg hc41, if_neg hc50, if_neg hc64, if_pos hc77, if_pos hc126]; done)
   | (rw [if_neg hc30, if_neg hc41, if_neg hc50, if_neg hc64, if_pos hc77, if_neg hc126]; done)
   | (rw [if_neg hc30, if_neg hc41, if_neg hc50, if_neg hc64, if_neg hc77, if_pos hc127, if_pos hc176]; done)
   | (rw [if_neg hc30, if_neg hc41, if_neg hc50, if_neg hc64, if_neg hc77, if_pos hc127, if_neg hc176, if_pos (by omega)]; done)
   | (rw [if_neg hc30, if_neg hc41, if_neg hc50, if_neg hc64, if_neg hc77, if_pos hc127, if_neg hc176, if_neg (by omega), if_pos hc205]; done)
   | (rw [if_neg hc30, if_neg hc41, if_neg hc50, if_neg hc64, if_neg hc77, if_pos hc127, if_neg hc176, if_neg (by omega), if_neg hc205]; done)
   | (rw [if_neg hc30, if_neg hc41, if_neg hc50, if_neg hc64, if_neg hc77, if_neg hc127]; done)
  iterate 10 refine AX ?_
  refine ⟨?_, rfl⟩
  show AV.int .i64 _ = AV.int .i64 (shp l)
  unfold shp
  try simp only [ha6, hb6]
  try simp only [ha5, hb5, hw3, hp3]
  first
  | (rw [if_pos hc30]; done)
  | (rw [if_neg hc30, if_pos hc41]; done)
  | (rw [if_neg hc30, if_neg hc41, if_pos hc50]; done)
  | (rw [if_neg hc30, if_neg hc41, if_neg hc50, if_pos hc64]; done)
  | (rw [if_neg hc30, if_neg hc41, if_neg hc50, if_neg hc64, if_pos hc77, if_pos hc126]; done)
  | (rw [if_neg hc30, if_neg hc41, if_neg hc50, if_neg hc64, if_pos hc77, if_neg hc126]; done)
  | (rw [if_neg hc30, if_neg hc41, if_neg hc50, if_neg hc64, if_neg hc77, if_pos hc127, if_pos hc176]; done)
  | (rw [if_neg hc30, if_neg hc41, if_neg hc50, if_neg hc64, if_neg hc77, if_pos hc127, if_neg hc176, if_pos (by omega)]; done)
  | (rw [if_neg hc30, if_neg hc41, if_neg hc50, if_neg hc64, if_neg hc77, if_pos hc127, if_neg hc176, if_neg (by omega), if_pos hc205]; done)
  | (rw [if_neg hc30, if_neg hc41, if_neg hc50, if_neg hc64, if_neg hc77, if_pos hc127, if_neg hc176, if_neg (by omega), if_neg hc205]; done)
  | (rw [if_neg hc30, if_neg hc41, if_neg hc50, if_neg hc64, if_neg hc77, if_neg hc127]; done)
 refine AWP.seqTo 127 (.bool (decide (zO l 6 = 0 ∧ zO l 2 > 0 ∧ zO l 3 ≤ 1 ∧ zO l 4 ≤ 1 ∧ zO l 5 ≤ 1 ∧ zO l 7 = 0))) [2, 4] ?_ ?_
 ·-- region 14
  iterate 5 refine AX ?_
  refine zB (t := 131) rfl (fun hg131 => ?_) (fun hg131 => ?_)
  ·have hh131 := hg131; try simp only [decide_eq_true_eq, decide_eq_false_iff_not, Bool.not_eq_true', Bool.not_eq_false', Int.not_lt, Int.not_le, ne_eq, Decidable.not_not] at hh131
   iterate 5 refine AX ?_
   refine zB (t := 136) rfl (fun hg136 => ?_) (fun hg136 => ?_)
   ·have hh136 := hg136; try simp only [decide_eq_true_eq, decide_eq_false_iff_not, Bool.not_eq_true', Bool.not_eq_false', Int.not_lt, Int.not_le, ne_eq, Decidable.not_not] at hh136
    iterate 5 refine AX ?_
    refine zB (t := 141) rfl (fun hg141 => ?_) (fun hg141 => ?_)
    ·have hh141 := hg141; try simp only [decide_eq_true_eq, decide_eq_false_iff_not, Bool.not_eq_true', Bool.not_eq_false', Int.not_lt, Int.not_le, ne_eq, Decidable.not_not] at hh141
     iterate 5 refine AX ?_
     refine zB (t := 146) rfl (fun hg146 => ?_) (fun hg146 => ?_)
     ·have hh146 := hg146; try simp only [decide_eq_true_eq, decide_eq_false_iff_not, Bool.not_eq_true', Bool.not_eq_false', Int.not_lt, Int.not_le, ne_eq, Decidable.not_not] at hh146
      iterate 5 refine AX ?_
      refine zB (t := 151) rfl (fun hg151 => ?_) (fun hg151 => ?_)
      ·have hh151 := hg151; try simp only [decide_eq_true_eq, decide_eq_false_iff_not, Bool.not_eq_true', Bool.not_eq_false', Int.not_lt, Int.not_le, ne_eq, Decidable.not_not] at hh151
       iterate 6 refine AX ?_
       exact ⟨rfl, zP rfl (by (refine Eq.symm ?_; (try rw [hla] at hh114); first | exact decide_eq_true (by omega) | exact decide_eq_false (by omega) | exact decide_eq_decide.2 (by omega))) sX, rfl⟩
      have hh151 := hg151; try simp only [decide_eq_true_eq, decide_eq_false_iff_not, Bool.not_eq_true', Bool.not_eq_false', Int.not_lt, Int.not_le, ne_eq, Decidable.not_not] at hh151
      iterate 6 refine AX ?_
      exact ⟨rfl, zP rfl (by (refine Eq.symm ?_; (try rw [hla] at hh114); first | exact decide_eq_true (by omega) | exact decide_eq_false (by omega) | exact decide_eq_decide.2 (by first | omega | simp [*]))) sX, rfl⟩
     have hh146 := hg146; try simp only [decide_eq_true_eq, decide_eq_false_iff_not, Bool.not_eq_true', Bool.not_eq_false', Int.not_lt, Int.not_le, ne_eq, Decidable.not_not] at hh146
     iterate 11 refine AX ?_
     exact ⟨rfl, zP rfl (by (refine Eq.symm ?_; (try rw [hla] at hh114); first | exact decide_eq_true (by omega) | exact decide_eq_false (by omega) | exact decide_eq_decide.2 (by first | omega | simp [*]))) sX, rfl⟩
    have hh141 := hg141; try simp only [decide_eq_true_eq, decide_eq_false_iff_not, Bool.not_eq_true', Bool.not_eq_false', Int.not_lt, Int.not_le, ne_eq, Decidable.not_not] at hh141
    iterate 16 refine AX ?_
    exact ⟨rfl, zP rfl (by (refine Eq.symm ?_; (try rw [hla] at hh114); first | exact decide_eq_true (by omega) | exact decide_eq_false (by omega) | exact decide_eq_decide.2 (by first | omega | simp [*]))) sX, rfl⟩
   have hh136 := hg136; try simp only [decide_eq_true_eq, decide_eq_false_iff_not, Bool.not_eq_true', Bool.not_eq_false', Int.not_lt, Int.not_le, ne_eq, Decidable.not_not] at hh136
   iterate 21 refine AX ?_
   exact ⟨rfl, zP rfl (by (refine Eq.symm ?_; (try rw [hla] at hh114); first | exact decide_eq_true (by omega) | exact decide_eq_false (by omega) | exact decide_eq_decide.2 (by first | omega | simp [*]))) sX, rfl⟩
  have hh131 := hg131; try simp only [decide_eq_true_eq, decide_eq_false_iff_not, Bool.not_eq_true', Bool.not_eq_false', Int.not_lt, Int.not_le, ne_eq, Decidable.not_not] at hh131
  iterate 26 refine AX ?_
  exact ⟨rfl, zP rfl (by (refine Eq.symm ?_; (try rw [hla] at hh114); first | exact decide_eq_true (by omega) | exact decide_eq_false (by omega) | exact decide_eq_decide.2 (by first | omega | simp [*]))) sX, rfl⟩
 refine AWP.sub [(127, _), (2, _), (4, _)] sX ?_
 refine AWP.cx rfl (fun hc127 => ?_) (fun hc127 => ?_)
 ·iterate 2 refine AX ?_
  refine .p rfl (zA U52 rfl Z50 (tm rfl)) ?_
  refine AX ?_
  refine .e rfl (yU U30 Z3 V3 rfl zG (.inl rfl) ⟨rfl, rfl⟩) (.cl rfl C163 (evs2 rfl rfl) (adT l _ (by omega) [5] _ (by decide) _) ?_)
  have hqa5 := qZ l [5]
  have hea5 := List.length_take (i := zW l [5]) (l := l)
  have hfb5 := List.length_drop (i := zW l [5]) (l := l)
  generalize ha5 : l.take (zW l [5]) = a5 at *
  generalize hb5 : l.drop (zW l [5]) = b5 at *
  iterate 10 refine AX ?_
  refine .e rfl (yU U30 Z3 V3 rfl zG (.inl rfl) ⟨rfl, rfl⟩) (.cl rfl C163 (evs2 rfl rfl) (adT a5 _ (by omega) [3] _ (by decide) _) ?_)
  have hqw3 := qZ a5 [3]
  have hew3 := List.length_take (i := zW a5 [3]) (l := a5)
  have hfp3 := List.length_drop (i := zW a5 [3]) (l := a5)
  generalize hw3 : a5.take (zW a5 [3]) = w3 at *
  generalize hp3 : a5.drop (zW a5 [3]) = p3 at *
  iterate 8 refine AX ?_
  refine AWP.seqTo 176 (.bool (decide (zO w3 2 > 30 ∨ zO p3 2 > 30))) [4, 9, 10] ?_ ?_
  ·-- region 17
   iterate 2 refine AX ?_
   refine .cl rfl C84 (evs1 rfl) (abQ _ _ (by omega) _) ?_
   iterate 2 refine AX ?_
   refine zB (t := 172) rfl (fun hg172 => ?_) (fun hg172 => ?_)
   ·have hh172 := hg172; try simp only [decide_eq_true_eq, decide_eq_false_iff_not, Bool.not_eq_true', Bool.not_eq_false', Int.not_lt, Int.not_le, ne_eq, Decidable.not_not] at hh172
    iterate 5 refine AX ?_
    exact ⟨rfl, zP rfl (by (refine Eq.symm ?_; (try rw [hla] at hh114); first | exact decide_eq_true (by omega) | exact decide_eq_false (by first | omega | simp [*]) | exact decide_eq_decide.2 (by first | omega | simp [*]))) sX, rfl⟩
   have hh172 := hg172; try simp only [decide_eq_true_eq, decide_eq_false_iff_not, Bool.not_eq_true', Bool.not_eq_false', Int.not_lt, Int.not_le, ne_eq, Decidable.not_not] at hh172
   refine AX ?_
   refine .gs rfl rfl rfl (by assumption) (zE C84 (evs1 rfl) (abQ _ _ (by omega) _)) ?_
   rintro _ _ ⟨rfl, hH⟩
   obtain rfl := hH.symm
   iterate 3 refine AX ?_
   exact ⟨rfl, zP rfl (by (refine Eq.symm ?_; (try rw [hla] at hh114); first | exact decide_eq_true (by omega) | exact decide_eq_false (by omega) | exact decide_eq_decide.2 (by omega))) sX, rfl⟩
  refine AWP.sub [(176, _), (4, _), (9, _), (10, _)] sX ?_
  refine AWP.cx rfl (fun hc176 => ?_) (fun hc176 => ?_)
  ·iterate 10 refine AX ?_
   refine ⟨?_, rfl⟩
   show AV.int .i64 _ = AV.int .i64 (shp l)
   unfold shp
   try simp only [ha6, hb6]
   try simp only [ha5, hb5, hw3, hp3]
   first
   | (rw [if_pos hc30]; done)
   | (rw [if_neg hc30, if_pos hc41]; done)
   | (rw [if_neg hc30, if_neg hc41, if_pos hc50]; done)
   | (rw [if_neg hc30, if_neg hc41, if_neg hc50, if_pos hc64]; done)
   | (rw [if_neg hc30, if_neg hc41, if_neg hc50, if_neg hc64, if_pos hc77, if_pos hc126]; done)
   | (rw [if_neg hc30, if_neg hc41, if_neg hc50, if_neg hc64, if_pos hc77, if_neg hc126]; done)
   | (rw [if_neg hc30, if_neg hc41, if_neg hc50, if_neg hc64, if_neg hc77, if_pos hc127, if_pos hc176]; done)
   | (rw [if_neg hc30, if_neg hc41, if_neg hc50, if_neg hc64, if_neg hc77, if_pos hc127, if_neg hc176, if_pos (by omega)]; done)
   | (rw [if_neg hc30, if_neg hc41, if_neg hc50, if_neg hc64, if_neg hc77, if_pos hc127, if_neg hc176, if_neg (by omega), if_pos hc205]; done)
   | (rw [if_neg hc30, if_neg hc41, if_neg hc50, if_neg hc64, if_neg hc77, if_pos hc127, if_neg hc176, if_neg (by omega), if_neg hc205]; done)
   | (rw [if_neg hc30, if_neg hc41, if_neg hc50, if_neg hc64, if_neg hc77, if_neg hc127]; done)
  iterate 10 refine AX ?_
  refine AWP.cx rfl (fun hc179 => ?_) (fun hc179 => ?_)
  ·iterate 10 refine AX ?_
   refine ⟨?_, rfl⟩
   show AV.int .i64 _ = AV.int .i64 (shp l)
   unfold shp
   try simp only [ha6, hb6]
   try simp only [ha5, hb5, hw3, hp3]
   first
   | (rw [if_pos hc30]; done)
   | (rw [if_neg hc30, if_pos hc41]; done)
   | (rw [if_neg hc30, if_neg hc41, if_pos hc50]; done)
   | (rw [if_neg hc30, if_neg hc41, if_neg hc50, if_pos hc64]; done)
   | (rw [if_neg hc30, if_neg hc41, if_neg hc50, if_neg hc64, if_pos hc77, if_pos hc126]; done)
   | (rw [if_neg hc30, if_neg hc41, if_neg hc50, if_neg hc64, if_pos hc77, if_neg hc126]; done)
   | (rw [if_neg hc30, if_neg hc41, if_neg hc50, if_neg hc64, if_neg hc77, if_pos hc127, if_pos hc176]; done)
   | (rw [if_neg hc30, if_neg hc41, if_neg hc50, if_neg hc64, if_neg hc77, if_pos hc127, if_neg hc176, if_pos (by omega)]; done)
   | (rw [if_neg hc30, if_neg hc41, if_neg hc50, if_neg hc64, if_neg hc77, if_pos hc127, if_neg hc176, if_neg (by omega), if_pos hc205]; done)
   | (rw [if_neg hc30, if_neg hc41, if_neg hc50, if_neg hc64, if_neg hc77, if_pos hc127, if_neg hc176, if_neg (by omega), if_neg hc205]; done)
   | (rw [if_neg hc30, if_neg hc41, if_neg hc50, if_neg hc64, if_neg hc77, if_neg hc127]; done)
  iterate 5 refine AX ?_
  refine .e rfl (yU U30 Z3 V3 rfl zG (.inl rfl) ⟨rfl, rfl⟩) (.cl rfl C163 (evs2 rfl rfl) (adT b5 _ (by omega) [3] _ (by decide) _) ?_)
  have hqr3 := qZ b5 [3]
  have her3 := List.length_take (i := zW b5 [3]) (l := b5)
  have hfq3 := List.length_drop (i := zW b5 [3]) (l := b5)
  generalize hr3 : b5.take (zW b5 [3]) = r3 at *
  generalize hq3 : b5.drop (zW b5 [3]) = q3 at *
  iterate 10 refine AX ?_
  refine .cl rfl C84 (evs1 rfl) (abQ _ _ (by omega) _) ?_
  iterate 3 refine AX ?_
  refine AWP.seqTo 205 (.bool (decide (zW b5 [3] = b5.length ∧ zO a5 2 > 0 ∧ 1 ≤ zO b5 2 ∧ zO b5 2 ≤ 4))) [4] ?_ ?_
  ·-- region 23
   iterate 7 refine AX ?_
   refine zB (t := 193) rfl (fun hg193 => ?_) (fun hg193 => ?_)
   ·have hh193 := hg193; try simp only [decide_eq_true_eq, decide_eq_false_iff_not, Bool.not_eq_true', Bool.not_eq_false', Int.not_lt, Int.not_le, ne_eq, Decidable.not_not] at hh193
    refine AX ?_
    refine .gs rfl rfl rfl (by assumption) (zE C84 (evs1 rfl) (abQ _ _ (by omega) _)) ?_
    rintro _ _ ⟨rfl, hH⟩
    obtain rfl := hH.symm
    iterate 3 refine AX ?_
    refine zB (t := 198) rfl (fun hg198 => ?_) (fun hg198 => ?_)
    ·have hh198 := hg198; try simp only [decide_eq_true_eq, decide_eq_false_iff_not, Bool.not_eq_true', Bool.not_eq_false', Int.not_lt, Int.not_le, ne_eq, Decidable.not_not] at hh198
     iterate 4 refine AX ?_
     refine zB (t := 202) rfl (fun hg202 => ?_) (fun hg202 => ?_)
     ·have hh202 := hg202; try simp only [decide_eq_true_eq, decide_eq_false_iff_not, Bool.not_eq_true', Bool.not_eq_false', Int.not_lt, Int.not_le, ne_eq, Decidable.not_not] at hh202
      iterate 4 refine AX ?_
      exact ⟨rfl, zP rfl (by (refine Eq.symm ?_; (try rw [hla] at hh114); first | exact decide_eq_true (by omega) | exact decide_eq_false (by omega) | exact decide_eq_decide.2 (by omega))) (zJ rfl yF), rfl⟩
     have hh202 := hg202; try simp only [decide_eq_true_eq, decide_eq_false_iff_not, Bool.not_eq_true', Bool.not_eq_false', Int.not_lt, Int.not_le, ne_eq, Decidable.not_not] at hh202
     iterate 4 refine AX ?_
     exact ⟨rfl, zP rfl (by (refine Eq.symm ?_; (try rw [hla] at hh114); first | exact decide_eq_true (by omega) | exact decide_eq_false (by omega) | exact decide_eq_decide.2 (by first | omega | simp [*]))) (zJ rfl yF), rfl⟩
    have hh198 := hg198; try simp only [decide_eq_true_eq, decide_eq_false_iff_not, Bool.not_eq_true', Bool.not_eq_false', Int.not_lt, Int.not_le, ne_eq, Decidable.not_not] at hh198
    iterate 8 refine AX ?_
    exact ⟨rfl, zP rfl (by (refine Eq.symm ?_; (try rw [hla] at hh114); first | exact decide_eq_true (by omega) | exact decide_eq_false (by omega) | exact decide_eq_decide.2 (by first | omega | simp [*]))) (zJ rfl yF), rfl⟩
   have hh193 := hg193; try simp only [decide_eq_true_eq, decide_eq_false_iff_not, Bool.not_eq_true', Bool.not_eq_false', Int.not_lt, Int.not_le, ne_eq, Decidable.not_not] at hh193
   iterate 13 refine AX ?_
   exact ⟨rfl, zP rfl (by (refine Eq.symm ?_; (try rw [hla] at hh114); first | exact decide_eq_true (by omega) | exact decide_eq_false (by omega) | exact decide_eq_decide.2 (by first | omega | simp [*]))) (zJ rfl yF), rfl⟩
  refine AWP.sub [(205, _), (4, _)] sX ?_
  refine AWP.cx rfl (fun hc205 => ?_) (fun hc205 => ?_)
  ·iterate 9 refine AX ?_
   refine ⟨?_, rfl⟩
   show AV.int .i64 _ = AV.int .i64 (shp l)
   unfold shp
   try simp only [ha6, hb6]
   try simp only [ha5, hb5, hw3, hp3]
   first
   | (rw [if_pos hc30]; done)
   | (rw [if_neg hc30, if_pos hc41]; done)
   | (rw [if_neg hc30, if_neg hc41, if_pos hc50]; done)
   | (rw [if_neg hc30, if_neg hc41, if_neg hc50, if_pos hc64]; done)
   | (rw [if_neg hc30, if_neg hc41, if_neg hc50, if_neg hc64, if_pos hc77, if_pos hc126]; done)
   | (rw [if_neg hc30, if_neg hc41, if_neg hc50, if_neg hc64, if_pos hc77, if_neg hc126]; done)
   | (rw [if_neg hc30, if_neg hc41, if_neg hc50, if_neg hc64, if_neg hc77, if_pos hc127, if_pos hc176]; done)
   | (rw [if_neg hc30, if_neg hc41, if_neg hc50, if_neg hc64, if_neg hc77, if_pos hc127, if_neg hc176, if_pos (by omega)]; done)
   | (rw [if_neg hc30, if_neg hc41, if_neg hc50, if_neg hc64, if_neg hc77, if_pos hc127, if_neg hc176, if_neg (by omega), if_pos hc205]; done)
   | (rw [if_neg hc30, if_neg hc41, if_neg hc50, if_neg hc64, if_neg hc77, if_pos hc127, if_neg hc176, if_neg (by omega), if_neg hc205]; done)
   | (rw [if_neg hc30, if_neg hc41, if_neg hc50, if_neg hc64, if_neg hc77, if_neg hc127]; done)
  iterate 10 refine AX ?_
  refine ⟨?_, rfl⟩
  show AV.int .i64 _ = AV.int .i64 (shp l)
  unfold shp
  try simp only [ha6, hb6]
  try simp only [ha5, hb5, hw3, hp3]
  first
  | (rw [if_pos hc30]; done)
  | (rw [if_neg hc30, if_pos hc41]; done)
  | (rw [if_neg hc30, if_neg hc41, if_pos hc50]; done)
  | (rw [if_neg hc30, if_neg hc41, if_neg hc50, if_pos hc64]; done)
  | (rw [if_neg hc30, if_neg hc41, if_neg hc50, if_neg hc64, if_pos hc77, if_pos hc126]; done)
  | (rw [if_neg hc30, if_neg hc41, if_neg hc50, if_neg hc64, if_pos hc77, if_neg hc126]; done)
  | (rw [if_neg hc30, if_neg hc41, if_neg hc50, if_neg hc64, if_neg hc77, if_pos hc127, if_pos hc176]; done)
  | (rw [if_neg hc30, if_neg hc41, if_neg hc50, if_neg hc64, if_neg hc77, if_pos hc127, if_neg hc176, if_pos (by omega)]; done)
  | (rw [if_neg hc30, if_neg hc41, if_neg hc50, if_neg hc64, if_neg hc77, if_pos hc127, if_neg hc176, if_neg (by omega), if_pos hc205]; done)
  | (rw [if_neg hc30, if_neg hc41, if_neg hc50, if_neg hc64, if_neg hc77, if_pos hc127, if_neg hc176, if_neg (by omega), if_neg hc205]; done)
  | (rw [if_neg hc30, if_neg hc41, if_neg hc50, if_neg hc64, if_neg hc77, if_neg hc127]; done)
 iterate 10 refine AX ?_
 refine ⟨?_, rfl⟩
 show AV.int .i64 _ = AV.int .i64 (shp l)
 unfold shp
 try simp only [ha6, hb6]
 try simp only [ha5, hb5, hw3, hp3]
 first
 | (rw [if_pos hc30]; done)
 | (rw [if_neg hc30, if_pos hc41]; done)
 | (rw [if_neg hc30, if_neg hc41, if_pos hc50]; done)
 | (rw [if_neg hc30, if_neg hc41, if_neg hc50, if_pos hc64]; done)
 | (rw [if_neg hc30, if_neg hc41, if_neg hc50, if_neg hc64, if_pos hc77, if_pos hc126]; done)
 | (rw [if_neg hc30, if_neg hc41, if_neg hc50, if_neg hc64, if_pos hc77, if_neg hc126]; done)
 | (rw [if_neg hc30, if_neg hc41, if_neg hc50, if_neg hc64, if_neg hc77, if_pos hc127, if_pos hc176]; done)
 | (rw [if_neg hc30, if_neg hc41, if_neg hc50, if_neg hc64, if_neg hc77, if_pos hc127, if_neg hc176, if_pos (by omega)]; done)
 | (rw [if_neg hc30, if_neg hc41, if_neg hc50, if_neg hc64, if_neg hc77, if_pos hc127, if_neg hc176, if_neg (by omega), if_pos hc205]; done)
 | (rw [if_neg hc30, if_neg hc41, if_neg hc50, if_neg hc64, if_neg hc77, if_pos hc127, if_neg hc176, if_neg (by omega), if_neg hc205]; done)
 | (rw [if_neg hc30, if_neg hc41, if_neg hc50, if_neg hc64, if_neg hc77, if_neg hc127]; done)


theorem agV (l : List ItN) (gr : Bool) (sc : Int) (tl : Tail) (hl : l.length ≤ 100000) (H : Heap) : ACall Tryz.prog 35 [.agg [itS l tl, .bool gr, .int .i64 sc]] H (fun y H' => y = .int .i64 (zX ⟨l, gr, sc⟩) ∧ H' = H) := by
 refine ACall.of_body Tryz.func35 rfl Tryz.ntmps35 Tryz.results35 rfl ?_
 iterate 9 refine AX ?_
 refine .s rfl (zE Tryz.call82 (evs1 rfl) (ayR ⟨l, gr, sc⟩ tl hl _)) ?_
 rintro _ _ ⟨m, rfl, hcs, hH⟩
 obtain rfl := hH.symm
 iterate 3 refine AX ?_
 refine .al zr148 (fun b3 hb3 => ?_)
 iterate 4 refine AX ?_
 refine AWP.frz (t := 3) rfl (hb3) ?_
 iterate 7 refine AX ?_
 refine AWP.cx rfl (fun hc13 => ?_) (fun hc13 => ?_)
 ·iterate 8 refine AX ?_
  refine ⟨?_, rfl⟩
  unfold zX
  first
  | (rw [if_pos (by simpa using hc13)]; rfl)
  | (rw [if_neg (by rw [hok]; simp), if_pos hc18, if_pos hc48, ← hc18]; rfl)
  | (rw [if_neg (by rw [hok]; simp), if_pos hc18, if_neg hc48]; rfl)
  | (rw [if_neg (by rw [hok]; simp), if_neg hc18, if_pos hc57]; rfl)
  | (rw [if_neg (by rw [hok]; simp), if_neg hc18, if_neg hc57]; rfl)
 have hok : l.all aeA = true := by simpa using hc13
 have hml : l = m := (hcs hok).symm
 subst hml
 iterate 7 refine AX ?_
 refine .cl rfl Tryz.call83 (evs2 rfl rfl) (bbH l gr sc tl hl _) ?_
 iterate 9 refine AX ?_
 refine AWP.cx rfl (fun hc18 => ?_) (fun hc18 => ?_)
 ·iterate 3 refine AX ?_
  refine .cl rfl Tryz.call85 (evs1 rfl) (agL ⟨l, gr, sc⟩ tl hl _) ?_
  have hhd : (adJ l).length ≤ 100000 := by unfold adJ; rw [List.length_take]; omega
  refine .cl rfl C84 (evs1 rfl) (abQ (adJ l) _ hhd _) ?_
  iterate 4 refine AX ?_
  refine AWP.seqTo 48 (.bool (decide (0 ≤ sc ∧ sc ≤ 9 ∧ (0 < zO (adJ l) 2 ∨ sc = 0) ∧ (gr = false ∨ aaA (adJ l) = true)))) [1, 2, 5] ?_ ?_
  ·-- region 7
   refine AX ?_
   refine .p rfl (zA U52 rfl Z3 (tm rfl)) ?_
   iterate 3 refine AX ?_
   refine zB (t := 26) rfl (fun hg26 => ?_) (fun hg26 => ?_)
   ·have hh26 := hg26; try simp only [decide_eq_true_eq, decide_eq_false_iff_not, Bool.not_eq_true', Bool.not_eq_false', Int.not_lt, Int.not_le, ne_eq, Decidable.not_not] at hh26
    refine .gp rfl rfl rfl (by assumption) (zA U52 rfl Z3 (tm rfl)) ?_
    iterate 4 refine AX ?_
    refine zB (t := 31) rfl (fun hg31 => ?_) (fun hg31 => ?_)
    ·have hh31 := hg31; try simp only [decide_eq_true_eq, decide_eq_false_iff_not, Bool.not_eq_true', Bool.not_eq_false', Int.not_lt, Int.not_le, ne_eq, Decidable.not_not] at hh31
     iterate 2 refine AX ?_
     refine zB (t := 33) rfl (fun hg33 => ?_) (fun hg33 => ?_)
     ·have hh33 := hg33; try simp only [decide_eq_true_eq, decide_eq_false_iff_not, Bool.not_eq_true', Bool.not_eq_false', Int.not_lt, Int.not_le, ne_eq, Decidable.not_not] at hh33
      iterate 6 refine AX ?_
      refine .gp rfl rfl rfl (by rfl) (zA U52 rfl Z4 (tm rfl)) ?_
      iterate 3 refine AX ?_
      refine zB (t := 43) rfl (fun hg43 => ?_) (fun hg43 => ?_)
      ·have hh43 := hg43; try simp only [decide_eq_true_eq, decide_eq_false_iff_not, Bool.not_eq_true', Bool.not_eq_false', Int.not_lt, Int.not_le, ne_eq, Decidable.not_not] at hh43
       iterate 6 refine AX ?_
       exact ⟨rfl, zP rfl (by (refine Eq.symm ?_; first | exact decide_eq_true ⟨by omega, by omega, by omega, .inl hh43⟩ | exact decide_eq_decide.2 ⟨fun h => hq2.2 (h.2.2.2.resolve_left (by rw [hh43]; simp)), fun h => ⟨by omega, by omega, by omega, .inr (hq2.1 h)⟩⟩ | exact decide_eq_false (fun h => by have h1 := h.1; have h2 := h.2.1; have h3 := h.2.2.1; omega) | exact decide_eq_decide.2 ⟨fun h => h.2, fun h => ⟨hh53, h⟩⟩ | exact decide_eq_false (fun h => by rw [hh53] at h; cases h.1))) sX, rfl⟩
      have hh43 := hg43; try simp only [decide_eq_true_eq, decide_eq_false_iff_not, Bool.not_eq_true', Bool.not_eq_false', Int.not_lt, Int.not_le, ne_eq, Decidable.not_not] at hh43
      refine AX ?_
      refine .gs rfl rfl rfl (by assumption) (zE Tryz.call86 (evs1 rfl) (alE ⟨l, gr, sc⟩ tl hl _)) ?_
      rintro _ _ ⟨q, rfl, hq, hH⟩
      obtain rfl := hH.symm
      have hq : decide (0 ≤ q) = aaA (adJ l) := hq
      have hq2 : 0 ≤ q ↔ aaA (adJ l) = true := by rw [← hq]; simp
      iterate 4 refine AX ?_
      exact ⟨rfl, zP rfl (by (refine Eq.symm ?_; first | exact decide_eq_true ⟨by omega, by omega, by omega, .inl hh43⟩ | exact decide_eq_decide.2 ⟨fun h => hq2.2 (h.2.2.2.resolve_left (by rw [hh43]; simp)), fun h => ⟨by omega, by omega, by omega, .inr (hq2.1 h)⟩⟩ | exact decide_eq_false (fun h => by have h1 := h.1; have h2 := h.2.1; have h3 := h.2.2.1; omega) | exact decide_eq_decide.2 ⟨fun h => h.2, fun h => ⟨hh53, h⟩⟩ | exact decide_eq_false (fun h => by rw [hh53] at h; cases h.1))) sX, rfl⟩
     have hh33 := hg33; try simp only [decide_eq_true_eq, decide_eq_false_iff_not, Bool.not_eq_true', Bool.not_eq_false', Int.not_lt, Int.not_le, ne_eq, Decidable.not_not] at hh33
     refine .gp rfl rfl rfl (by assumption) (zA U52 rfl Z3 (tm rfl)) ?_
     iterate 5 refine AX ?_
     refine zB (t := 39) rfl (fun hg39 => ?_) (fun hg39 => ?_)
     ·have hh39 := hg39; try simp only [decide_eq_true_eq, decide_eq_false_iff_not, Bool.not_eq_true', Bool.not_eq_false', Int.not_lt, Int.not_le, ne_eq, Decidable.not_not] at hh39
      refine .gp rfl rfl rfl (by assumption) (zA U52 rfl Z4 (tm rfl)) ?_
      iterate 3 refine AX ?_
      refine zB (t := 43) rfl (fun hg43 => ?_) (fun hg43 => ?_)
      ·have hh43 := hg43; try simp only [decide_eq_true_eq, decide_eq_false_iff_not, Bool.not_eq_true', Bool.not_eq_false', Int.not_lt, Int.not_le, ne_eq, Decidable.not_not] at hh43
       iterate 6 refine AX ?_
       exact ⟨rfl, zP rfl (by (refine Eq.symm ?_; first | exact decide_eq_true ⟨by omega, by omega, by omega, .inl hh43⟩ | exact decide_eq_decide.2 ⟨fun h => hq2.2 (h.2.2.2.resolve_left (by rw [hh43]; simp)), fun h => ⟨by omega, by omega, by omega, .inr (hq2.1 h)⟩⟩ | exact decide_eq_false (fun h => by have h1 := h.1; have h2 := h.2.1; have h3 := h.2.2.1; omega) | exact decide_eq_decide.2 ⟨fun h => h.2, fun h => ⟨hh53, h⟩⟩ | exact decide_eq_false (fun h => by rw [hh53] at h; cases h.1))) sX, rfl⟩
      have hh43 := hg43; try simp only [decide_eq_true_eq, decide_eq_false_iff_not, Bool.not_eq_true', Bool.not_eq_false', Int.not_lt, Int.not_le, ne_eq, Decidable.not_not] at hh43
      refine AX ?_
      refine .gs rfl rfl rfl (by assumption) (zE Tryz.call86 (evs1 rfl) (alE ⟨l, gr, sc⟩ tl hl _)) ?_
      rintro _ _ ⟨q, rfl, hq, hH⟩
      obtain rfl := hH.symm
      have hq : decide (0 ≤ q) = aaA (adJ l) := hq
      have hq2 : 0 ≤ q ↔ aaA (adJ l) = true := by rw [← hq]; simp
      iterate 4 refine AX ?_
      exact ⟨rfl, zP rfl (by (refine Eq.symm ?_; first | exact decide_eq_true ⟨by omega, by omega, by omega, .inl hh43⟩ | exact decide_eq_decide.2 ⟨fun h => hq2.2 (h.2.2.2.resolve_left (by rw [hh43]; simp)), fun h => ⟨by omega, by omega, by omega, .inr (hq2.1 h)⟩⟩ | exact decide_eq_false (fun h => by have h1 := h.1; have h2 := h.2.1; have h3 := h.2.2.1; omega) | exact decide_eq_decide.2 ⟨fun h => h.2, fun h => ⟨hh53, h⟩⟩ | exact decide_eq_false (fun h => by rw [hh53] at h; cases h.1))) sX, rfl⟩
     have hh39 := hg39; try simp only [decide_eq_true_eq, decide_eq_false_iff_not, Bool.not_eq_true', Bool.not_eq_false', Int.not_lt, Int.not_le, ne_eq, Decidable.not_not] at hh39
     iterate 10 refine AX ?_
     exact ⟨rfl, zP rfl (by (refine Eq.symm ?_; first | exact decide_eq_true ⟨by omega, by omega, by omega, .inl hh43⟩ | exact decide_eq_decide.2 ⟨fun h => hq2.2 (h.2.2.2.resolve_left (by rw [hh43]; simp)), fun h => ⟨by omega, by omega, by omega, .inr (hq2.1 h)⟩⟩ | exact decide_eq_false (fun h => by have h1 := h.1; have h2 := h.2.1; have h3 := h.2.2.1; omega) | exact decide_eq_decide.2 ⟨fun h => h.2, fun h => ⟨hh53, h⟩⟩ | exact decide_eq_false (fun h => by rw [hh53] at h; cases h.1))) sX, rfl⟩
    have hh31 := hg31; try simp only [decide_eq_true_eq, decide_eq_false_iff_not, Bool.not_eq_true', Bool.not_eq_false', Int.not_lt, Int.not_le, ne_eq, Decidable.not_not] at hh31
    iterate 18 refine AX ?_
    exact ⟨rfl, zP rfl (by (refine Eq.symm ?_; first | exact decide_eq_true ⟨by omega, by omega, by omega, .inl hh43⟩ | exact decide_eq_decide.2 ⟨fun h => hq2.2 (h.2.2.2.resolve_left (by rw [hh43]; simp)), fun h => ⟨by omega, by omega, by omega, .inr (hq2.1 h)⟩⟩ | exact decide_eq_false (fun h => by have h1 := h.1; have h2 := h.2.1; have h3 := h.2.2.1; omega) | exact decide_eq_decide.2 ⟨fun h => h.2, fun h => ⟨hh53, h⟩⟩ | exact decide_eq_false (fun h => by rw [hh53] at h; cases h.1))) sX, rfl⟩
   have hh26 := hg26; try simp only [decide_eq_true_eq, decide_eq_false_iff_not, Bool.not_eq_true', Bool.not_eq_false', Int.not_lt, Int.not_le, ne_eq, Decidable.not_not] at hh26
   iterate 23 refine AX ?_
   exact ⟨rfl, zP rfl (by (refine Eq.symm ?_; first | exact decide_eq_true ⟨by omega, by omega, by omega, .inl hh43⟩ | exact decide_eq_decide.2 ⟨fun h => hq2.2 (h.2.2.2.resolve_left (by rw [hh43]; simp)), fun h => ⟨by omega, by omega, by omega, .inr (hq2.1 h)⟩⟩ | exact decide_eq_false (fun h => by have h1 := h.1; have h2 := h.2.1; have h3 := h.2.2.1; omega) | exact decide_eq_decide.2 ⟨fun h => h.2, fun h => ⟨hh53, h⟩⟩ | exact decide_eq_false (fun h => by rw [hh53] at h; cases h.1))) sX, rfl⟩
  refine AWP.sub [(48, _), (1, _), (2, _), (5, _)] sX ?_
  refine AWP.cx rfl (fun hc48 => ?_) (fun hc48 => ?_)
  ·iterate 9 refine AX ?_
   refine ⟨?_, rfl⟩
   unfold zX
   first
   | (rw [if_pos (by simpa using hc13)]; rfl)
   | (rw [if_neg (by rw [hok]; simp), if_pos hc18, if_pos hc48, ← hc18]; rfl)
   | (rw [if_neg (by rw [hok]; simp), if_pos hc18, if_neg hc48]; rfl)
   | (rw [if_neg (by rw [hok]; simp), if_neg hc18, if_pos hc57]; rfl)
   | (rw [if_neg (by rw [hok]; simp), if_neg hc18, if_neg hc57]; rfl)
  iterate 9 refine AX ?_
  refine ⟨?_, rfl⟩
  unfold zX
  first
  | (rw [if_pos (by simpa using hc13)]; rfl)
  | (rw [if_neg (by rw [hok]; simp), if_pos hc18, if_pos hc48, ← hc18]; rfl)
  | (rw [if_neg (by rw [hok]; simp), if_pos hc18, if_neg hc48]; rfl)
  | (rw [if_neg (by rw [hok]; simp), if_neg hc18, if_pos hc57]; rfl)
  | (rw [if_neg (by rw [hok]; simp), if_neg hc18, if_neg hc57]; rfl)
 refine AWP.seqTo 57 (.bool (decide (gr = false ∧ sc = 0))) [2, 5] ?_ ?_
 ·-- region 9
  refine AX ?_
  refine .p rfl (zA U52 rfl Z4 (tm rfl)) ?_
  iterate 3 refine AX ?_
  refine zB (t := 53) rfl (fun hg53 => ?_) (fun hg53 => ?_)
  ·have hh53 := hg53; try simp only [decide_eq_true_eq, decide_eq_false_iff_not, Bool.not_eq_true', Bool.not_eq_false', Int.not_lt, Int.not_le, ne_eq, Decidable.not_not] at hh53
   refine .gp rfl rfl rfl (by assumption) (zA U52 rfl Z3 (tm rfl)) ?_
   iterate 4 refine AX ?_
   exact ⟨rfl, zP rfl (by (refine Eq.symm ?_; first | exact decide_eq_true ⟨by omega, by omega, by omega, .inl hh43⟩ | exact decide_eq_decide.2 ⟨fun h => hq2.2 (h.2.2.2.resolve_left (by rw [hh43]; simp)), fun h => ⟨by omega, by omega, by omega, .inr (hq2.1 h)⟩⟩ | exact decide_eq_false (fun h => by have h1 := h.1; have h2 := h.2.1; have h3 := h.2.2.1; omega) | exact decide_eq_decide.2 ⟨fun h => h.2, fun h => ⟨hh53, h⟩⟩ | exact decide_eq_false (fun h => by rw [hh53] at h; cases h.1))) sX, rfl⟩
  have hh53 := hg53; try simp only [decide_eq_true_eq, decide_eq_false_iff_not, Bool.not_eq_true', Bool.not_eq_false', Int.not_lt, Int.not_le, ne_eq, Decidable.not_not] at hh53
  iterate 5 refine AX ?_
  exact ⟨rfl, zP rfl (by (refine Eq.symm ?_; first | exact decide_eq_true ⟨by omega, by omega, by omega, .inl hh43⟩ | exact decide_eq_decide.2 ⟨fun h => hq2.2 (h.2.2.2.resolve_left (by rw [hh43]; simp)), fun h => ⟨by omega, by omega, by omega, .inr (hq2.1 h)⟩⟩ | exact decide_eq_false (fun h => by have h1 := h.1; have h2 := h.2.1; have h3 := h.2.2.1; omega) | exact decide_eq_decide.2 ⟨fun h => h.2, fun h => ⟨hh53, h⟩⟩ | exact decide_eq_false (fun h => by rw [hh53] at h; cases h.1))) sX, rfl⟩
 refine AWP.sub [(57, _), (2, _), (5, _)] sX ?_
 refine AWP.cx rfl (fun hc57 => ?_) (fun hc57 => ?_)
 ·iterate 9 refine AX ?_
  refine ⟨?_, rfl⟩
  unfold zX
  first
  | (rw [if_pos (by simpa using hc13)]; rfl)
  | (rw [if_neg (by rw [hok]; simp), if_pos hc18, if_pos hc48, ← hc18]; rfl)
  | (rw [if_neg (by rw [hok]; simp), if_pos hc18, if_neg hc48]; rfl)
  | (rw [if_neg (by rw [hok]; simp), if_neg hc18, if_pos hc57]; rfl)
  | (rw [if_neg (by rw [hok]; simp), if_neg hc18, if_neg hc57]; rfl)
 iterate 9 refine AX ?_
 refine ⟨?_, rfl⟩
 unfold zX
 first
 | (rw [if_pos (by simpa using hc13)]; rfl)
 | (rw [if_neg (by rw [hok]; simp), if_pos hc18, if_pos hc48, ← hc18]; rfl)
 | (rw [if_neg (by rw [hok]; simp), if_pos hc18, if_neg hc48]; rfl)
 | (rw [if_neg (by rw [hok]; simp), if_neg hc18, if_pos hc57]; rfl)
 | (rw [if_neg (by rw [hok]; simp), if_neg hc18, if_neg hc57]; rfl)

end Go.Proofs.YteedncdcbgplfaaGreatDoor
