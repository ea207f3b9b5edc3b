import Derived.Test.YteedncdcbgplfaaGreatDoorZa
import Derived.Test.YteedncdcbgplfaaGreatDoorJ4
set_option maxHeartbeats 1000000
namespace Go.Proofs.YteedncdcbgplfaaGreatDoor
open Go Go.RowKit
set_option maxRecDepth 100000

theorem baX {l : List ItN} {e i : Nat} (h : i < e) (he : e ≤ l.length) : (l.take e).getD i ⟨0, []⟩ = l[i]'(Nat.lt_of_lt_of_le h he) := by
 rw [List.getD_eq_getElem?_getD, List.getElem?_take_of_lt h, List.getElem?_eq_getElem (Nat.lt_of_lt_of_le h he)]; rfl
theorem beH (l : List ItN) : aiU l ≤ l.length ∧ aiU l ≤ atK l 5 ∧ atK l 5 ≤ l.length := by
 have h3 := aoE l 3; have h5 := aoE l 5
 unfold aiU; omega
theorem biC (n i : Nat) (k : Int) : asR n i k = decide (k = 0 ∨ (k = 6 ∧ i < 3 ∧ 1 < n) ∨ (i = 3 ∧ k ≠ 1 ∧ k ≠ 6)) := by
 unfold asR
 split
 ·exact (decide_eq_true (by omega)).symm
 split
 ·exact (decide_eq_false (by omega)).symm
 split
 ·exact decide_eq_decide.2 (by omega)
 exact decide_eq_decide.2 (by omega)

def bjI (l : List ItN) (tl : Tail) (e : Nat) (H : Heap) : Nat → Env → Heap → Prop := fun k env H1 => ∃ i : Nat, i ≤ e ∧ (∀ q, 1 ≤ q → q < i + 1 → ¬ (((l.take e).getD (q - 1) ⟨0, []⟩).kind = 2 ∧ ((l.take e).getD q ⟨0, []⟩).kind = 2)) ∧ env = [(0, itS l tl), (3, .int .i64 (e : Int)), (4, .int .i64 (i : Int))] ∧ H = H1 ∧ k = e - i

theorem axZ (l : List ItN) (tl : Tail) (hl : l.length ≤ 100000) (H : Heap) : ACall Tryz.prog 131 [itS l tl] H (fun y H' => y = .bool (aaA (l.take (aiU l))) ∧ H' = H) := by
 obtain ⟨hel, _, _⟩ := beH l
 refine ACall.of_body Tryz.func131 rfl Tryz.ntmps131 Tryz.results131 rfl ?_
 iterate 8 refine AX ?_
 refine .cl rfl Tryz.call118 (evs1 rfl) (anG l tl hl _) ?_
 generalize aiU l = e at *
 have htl : (l.take e).length = e := by rw [List.length_take]; omega
 iterate 10 refine AX ?_
 refine AWP.loopW (bjI l tl e H) (e) ⟨0, Nat.zero_le _, fun q h1 h2 => by omega, rfl, rfl, rfl⟩ sX (hRa _) ?_
 rintro _ _ _ ⟨i, hie, hno, rfl, rfl, rfl⟩
 iterate 9 refine AX ?_
 refine AWP.cx rfl (fun hc10 => ?_) (fun hc10 => ?_)
 ·have ha : (l.take e).getD i ⟨0, []⟩ = l[((i : Nat) : Int).toNat] := baX (by omega) hel
  have hb : (l.take e).getD (i + 1) ⟨0, []⟩ = l[(((i : Nat) : Int) + 1).toNat]'(by omega) := baX (by omega) hel
  iterate 4 refine AX ?_
  refine AWP.seqTo 27 (.bool (decide (((l.take e).getD i ⟨0, []⟩).kind = 2 ∧ ((l.take e).getD (i + 1) ⟨0, []⟩).kind = 2))) [0, 3, 4] ?_ ?_
  ·-- region 5
   iterate 4 refine AX ?_
   refine .p rfl (zA U78 rfl Z3 (tm rfl)) ?_
   iterate 3 refine AX ?_
   refine zB (t := 19) rfl (fun hg19 => ?_) (fun hg19 => ?_)
   ·have hh19 := hg19; try simp only [decide_eq_true_eq, decide_eq_false_iff_not, Bool.not_eq_true', Bool.not_eq_false', Int.not_lt, Int.not_le, ne_eq, Decidable.not_not] at hh19
    iterate 4 refine AX ?_
    refine .gp rfl rfl rfl (by assumption) (zA U78 rfl Z3 (tm rfl)) ?_
    iterate 4 refine AX ?_
    exact ⟨rfl, zP rfl (by (refine Eq.symm ?_; rw [ha, hb]; first | exact decide_eq_decide.2 ⟨fun h => h.2, fun h => ⟨hh19, h⟩⟩ | exact decide_eq_false (fun h => hh19 h.1))) sX, rfl⟩
   have hh19 := hg19; try simp only [decide_eq_true_eq, decide_eq_false_iff_not, Bool.not_eq_true', Bool.not_eq_false', Int.not_lt, Int.not_le, ne_eq, Decidable.not_not] at hh19
   iterate 9 refine AX ?_
   exact ⟨rfl, zP rfl (by (refine Eq.symm ?_; rw [ha, hb]; first | exact decide_eq_decide.2 ⟨fun h => h.2, fun h => ⟨hh19, h⟩⟩ | exact decide_eq_false (fun h => hh19 h.1))) sX, rfl⟩
  refine AWP.sub [(27, _), (0, _), (3, _), (4, _)] sX ?_
  refine AWP.cx rfl (fun hc27 => ?_) (fun hc27 => ?_)
  ·iterate 12 refine AX ?_
   refine ⟨?_, rfl⟩
   rw [aoC (i := i + 1) (by omega) (by omega) hc27]; rfl
  iterate 9 refine AX ?_
  refine Round.mk (J := bjI l tl e H) ⟨i + 1, by omega, fun q h1 h2 => (Nat.lt_or_ge q (i + 1)).elim (hno q h1) (fun h => by rw [show q = i + 1 by omega]; exact hc27), rfl, rfl, rfl⟩ sX (hRa _) (by omega)
 iterate 12 refine AX ?_
 refine ⟨?_, rfl⟩
 rw [aoB hno (by omega)]; rfl

theorem atS (l : List ItN) (tl : Tail) (hl : l.length ≤ 100000) (H : Heap) : ACall Tryz.prog 54 [itS l tl] H (fun y H' => y = .int .i64 (ayV l) ∧ H' = H) := by
 have hn2 := qE l 2
 have hn3 := qE l 3
 have hn4 := qE l 4
 have hn5 := qE l 5
 have hn6 := qE l 6
 have hn7 := qE l 7
 have hn8 := qE l 8
 have hn9 := qE l 9
 have hk := aoE l 6
 have hla : ∀ h : (((atK l 6 : Nat) : Int) - 1).toNat < l.length, l[(((atK l 6 : Nat) : Int) - 1).toNat] = l.getD (atK l 6 - 1) ⟨0, []⟩ := fun h => by
  rw [aiS (show atK l 6 - 1 < l.length by omega)]; congr 1; omega
 refine ACall.of_body Tryz.func54 rfl Tryz.ntmps54 Tryz.results54 rfl ?_
 iterate 8 refine AX ?_
 refine .cl rfl C130 (.cons (tm rfl) (.cons zG .nil)) (acS _ _ (by assumption) _ _) ?_
 iterate 4 refine AX ?_
 refine AWP.seqTo 33 (.bool (decide (zO l 6 > 1 ∨ atK l 6 = 0 ∨ (l.getD (atK l 6 - 1) ⟨0, []⟩).kind ≠ 2 ∨ zO l 3 + zO l 4 + zO l 5 > 0))) [0, 2, 3] ?_ ?_
 ·-- region 2
  iterate 2 refine AX ?_
  refine .cl rfl C53 (.cons (tm rfl) (.cons zG .nil)) (yA _ _ (by assumption) _ _) ?_
  iterate 2 refine AX ?_
  refine zB (t := 10) rfl (fun hg10 => ?_) (fun hg10 => ?_)
  ·have hh10 := hg10; try simp only [decide_eq_true_eq, decide_eq_false_iff_not, Bool.not_eq_true', Bool.not_eq_false', Int.not_lt, Int.not_le, ne_eq, Decidable.not_not] at hh10
   iterate 24 refine AX ?_
   exact ⟨rfl, zP rfl (by (refine Eq.symm ?_; (try rw [hla] at hh23); first | ((with_reducible refine decide_eq_decide.2 ?_); (first | omega | simp [*])) | ((with_reducible refine decide_eq_true ?_); (first | omega | simp [*])) | ((with_reducible refine decide_eq_false ?_); (first | omega | simp [*])))) sX, rfl⟩
  have hh10 := hg10; try simp only [decide_eq_true_eq, decide_eq_false_iff_not, Bool.not_eq_true', Bool.not_eq_false', Int.not_lt, Int.not_le, ne_eq, Decidable.not_not] at hh10
  iterate 4 refine AX ?_
  refine zB (t := 14) rfl (fun hg14 => ?_) (fun hg14 => ?_)
  ·have hh14 := hg14; try simp only [decide_eq_true_eq, decide_eq_false_iff_not, Bool.not_eq_true', Bool.not_eq_false', Int.not_lt, Int.not_le, ne_eq, Decidable.not_not] at hh14
   iterate 20 refine AX ?_
   exact ⟨rfl, zP rfl (by (refine Eq.symm ?_; (try rw [hla] at hh23); first | ((with_reducible refine decide_eq_decide.2 ?_); (first | omega | simp [*])) | ((with_reducible refine decide_eq_true ?_); (first | omega | simp [*])) | ((with_reducible refine decide_eq_false ?_); (first | omega | simp [*])))) sX, rfl⟩
  have hh14 := hg14; try simp only [decide_eq_true_eq, decide_eq_false_iff_not, Bool.not_eq_true', Bool.not_eq_false', Int.not_lt, Int.not_le, ne_eq, Decidable.not_not] at hh14
  iterate 4 refine AX ?_
  refine .gp rfl rfl rfl (by assumption) (zA U78 rfl Z3 (tm rfl)) ?_
  iterate 4 refine AX ?_
  refine zB (t := 23) rfl (fun hg23 => ?_) (fun hg23 => ?_)
  ·have hh23 := hg23; try simp only [decide_eq_true_eq, decide_eq_false_iff_not, Bool.not_eq_true', Bool.not_eq_false', Int.not_lt, Int.not_le, ne_eq, Decidable.not_not] at hh23
   iterate 11 refine AX ?_
   exact ⟨rfl, zP rfl (by (refine Eq.symm ?_; (try rw [hla] at hh23); first | ((with_reducible refine decide_eq_decide.2 ?_); (first | omega | simp [*])) | ((with_reducible refine decide_eq_true ?_); (first | omega | simp [*])) | ((with_reducible refine decide_eq_false ?_); (first | omega | simp [*])))) sX, rfl⟩
  have hh23 := hg23; try simp only [decide_eq_true_eq, decide_eq_false_iff_not, Bool.not_eq_true', Bool.not_eq_false', Int.not_lt, Int.not_le, ne_eq, Decidable.not_not] at hh23
  refine AX ?_
  refine .gs rfl rfl rfl (by assumption) (zE C53 (.cons (tm rfl) (.cons zG .nil)) (yA _ _ (by assumption) _ _)) ?_
  rintro _ _ ⟨rfl, hH⟩
  obtain rfl := hH.symm
  refine AX ?_
  refine .gs rfl rfl rfl (by assumption) (zE C53 (.cons (tm rfl) (.cons zG .nil)) (yA _ _ (by assumption) _ _)) ?_
  rintro _ _ ⟨rfl, hH⟩
  obtain rfl := hH.symm
  iterate 2 refine AX ?_
  refine .gs rfl rfl rfl (by assumption) (zE C53 (.cons (tm rfl) (.cons zG .nil)) (yA _ _ (by assumption) _ _)) ?_
  rintro _ _ ⟨rfl, hH⟩
  obtain rfl := hH.symm
  iterate 4 refine AX ?_
  exact ⟨rfl, zP rfl (by (refine Eq.symm ?_; (try rw [hla] at hh23); first | ((with_reducible refine decide_eq_decide.2 ?_); (first | omega | simp [*])) | ((with_reducible refine decide_eq_true ?_); (first | omega | simp [*])) | ((with_reducible refine decide_eq_false ?_); (first | omega | simp [*])))) sX, rfl⟩
 refine AWP.sub [(33, _), (0, _), (2, _), (3, _)] sX ?_
 refine AWP.cx rfl (fun hc33 => ?_) (fun hc33 => ?_)
 ·iterate 8 refine AX ?_
  refine ⟨?_, rfl⟩
  unfold ayV
  rw [if_pos hc33]
  rfl
 iterate 7 refine AX ?_
 refine .cl rfl C53 (.cons (tm rfl) (.cons zG .nil)) (yA (l.drop (atK l 6)) _ (by (rw [List.length_drop]; omega)) _ _) ?_
 iterate 4 refine AX ?_
 refine AWP.seqTo 50 (.bool (decide (zO (l.drop (atK l 6)) 2 < 1 ∨ zO (l.drop (atK l 6)) 2 > 4 ∨ zO (l.take (atK l 6)) 2 > 30))) [2] ?_ ?_
 ·-- region 5
  iterate 4 refine AX ?_
  refine zB (t := 40) rfl (fun hg40 => ?_) (fun hg40 => ?_)
  ·have hh40 := hg40; try simp only [decide_eq_true_eq, decide_eq_false_iff_not, Bool.not_eq_true', Bool.not_eq_false', Int.not_lt, Int.not_le, ne_eq, Decidable.not_not] at hh40
   iterate 11 refine AX ?_
   exact ⟨rfl, zP rfl (by (refine Eq.symm ?_; (try rw [hla] at hh23); first | ((with_reducible refine decide_eq_decide.2 ?_); (first | omega | simp [*])) | ((with_reducible refine decide_eq_true ?_); (first | omega | simp [*])) | ((with_reducible refine decide_eq_false ?_); (first | omega | simp [*])))) (zJ rfl yF), rfl⟩
  have hh40 := hg40; try simp only [decide_eq_true_eq, decide_eq_false_iff_not, Bool.not_eq_true', Bool.not_eq_false', Int.not_lt, Int.not_le, ne_eq, Decidable.not_not] at hh40
  iterate 4 refine AX ?_
  refine zB (t := 44) rfl (fun hg44 => ?_) (fun hg44 => ?_)
  ·have hh44 := hg44; try simp only [decide_eq_true_eq, decide_eq_false_iff_not, Bool.not_eq_true', Bool.not_eq_false', Int.not_lt, Int.not_le, ne_eq, Decidable.not_not] at hh44
   iterate 7 refine AX ?_
   exact ⟨rfl, zP rfl (by (refine Eq.symm ?_; (try rw [hla] at hh23); first | ((with_reducible refine decide_eq_decide.2 ?_); (first | omega | simp [*])) | ((with_reducible refine decide_eq_true ?_); (first | omega | simp [*])) | ((with_reducible refine decide_eq_false ?_); (first | omega | simp [*])))) (zJ rfl yF), rfl⟩
  have hh44 := hg44; try simp only [decide_eq_true_eq, decide_eq_false_iff_not, Bool.not_eq_true', Bool.not_eq_false', Int.not_lt, Int.not_le, ne_eq, Decidable.not_not] at hh44
  iterate 3 refine AX ?_
  refine .gs rfl rfl rfl (by assumption) (zE C53 (.cons (tm rfl) (.cons zG .nil)) (yA (l.take (atK l 6)) _ (by (rw [List.length_take]; omega)) _ _)) ?_
  rintro _ _ ⟨rfl, hH⟩
  obtain rfl := hH.symm
  iterate 3 refine AX ?_
  exact ⟨rfl, zP rfl (by (refine Eq.symm ?_; (try rw [hla] at hh23); first | ((with_reducible refine decide_eq_decide.2 ?_); (first | omega | simp [*])) | ((with_reducible refine decide_eq_true ?_); (first | omega | simp [*])) | ((with_reducible refine decide_eq_false ?_); (first | omega | simp [*])))) (zJ rfl yF), rfl⟩
 refine AWP.sub [(50, _), (2, _)] sX ?_
 refine AWP.cx rfl (fun hc50 => ?_) (fun hc50 => ?_)
 ·iterate 8 refine AX ?_
  refine ⟨?_, rfl⟩
  unfold ayV
  rw [if_neg hc33, if_pos hc50]
  rfl
 iterate 9 refine AX ?_
 refine ⟨?_, rfl⟩
 unfold ayV
 rw [if_neg hc33, if_neg hc50]
 rfl

theorem aqU (l : List ItN) (gr : Bool) (sc : Int) (tl : Tail) (hl : l.length ≤ 100000) (H : Heap) : ACall Tryz.prog 55 [.agg [itS l tl, .bool gr, .int .i64 sc]] H (fun y H' => y = .int .i64 (arL ⟨l, gr, sc⟩) ∧ H' = H) := by
 have hn2 := qE l 2
 have hn3 := qE l 3
 have hn4 := qE l 4
 have hn5 := qE l 5
 have hn6 := qE l 6
 have hn7 := qE l 7
 have hn8 := qE l 8
 have hn9 := qE l 9
 obtain ⟨he1, he2, he3⟩ := beH l
 refine ACall.of_body Tryz.func55 rfl Tryz.ntmps55 Tryz.results55 rfl ?_
 iterate 8 refine AX ?_
 refine .p rfl (zA U48 rfl Z46 (tm rfl)) ?_
 iterate 7 refine AX ?_
 refine .cl rfl Tryz.call118 (evs1 rfl) (anG _ _ (by assumption) _) ?_
 iterate 6 refine AX ?_
 refine .cl rfl C130 (.cons (tm rfl) (.cons zG .nil)) (acS _ _ (by assumption) _ _) ?_
 iterate 8 refine AX ?_
 refine .cl rfl C53 (.cons (tm rfl) (.cons zG .nil)) (yA (l.take (aiU l)) _ (by (rw [List.length_take]; omega)) _ _) ?_
 iterate 4 refine AX ?_
 refine AWP.seqTo 48 (.bool (decide (zO l 2 = 0 ∨ zO l 3 > 1 ∨ zO l 4 > 1 ∨ zO l 5 > 1 ∨ zO (l.take (aiU l)) 2 > 30 ∨ zO ((l.take (atK l 5)).drop (aiU l)) 2 > 30))) [1, 2, 3, 5, 6] ?_ ?_
 ·-- region 5
  iterate 2 refine AX ?_
  refine .cl rfl C53 (.cons (tm rfl) (.cons zG .nil)) (yA _ _ (by assumption) _ _) ?_
  iterate 2 refine AX ?_
  refine zB (t := 22) rfl (fun hg22 => ?_) (fun hg22 => ?_)
  ·have hh22 := hg22; try simp only [decide_eq_true_eq, decide_eq_false_iff_not, Bool.not_eq_true', Bool.not_eq_false', Int.not_lt, Int.not_le, ne_eq, Decidable.not_not] at hh22
   iterate 27 refine AX ?_
   exact ⟨rfl, zP rfl (by (refine Eq.symm ?_; first | exact decide_eq_true (.inr (.inr (.inr (.inr (.inl hh81))))) | exact decide_eq_decide.2 ⟨fun h => by rcases h with h | h | h | h | h | h <;> first | exact h | omega | (rw [hh81] at h; cases h), fun h => .inr (.inr (.inr (.inr (.inr h))))⟩ | exact decide_eq_true (.inl ⟨hh90, hh94⟩) | exact decide_eq_decide.2 ⟨by rintro (⟨h1, h2⟩ | h | h | ⟨h1, h2⟩) <;> first | omega | simp_all, fun h => .inr (.inr (.inr ⟨by omega, by omega⟩))⟩ | exact decide_eq_false (by rintro (⟨h1, h2⟩ | h | h | ⟨h1, h2⟩) <;> first | omega | simp_all) | ((with_reducible refine decide_eq_decide.2 ?_); (first | omega | simp [*])) | ((with_reducible refine decide_eq_true ?_); (first | omega | simp [*])) | ((with_reducible refine decide_eq_false ?_); (first | omega | simp [*])))) sX, rfl⟩
  have hh22 := hg22; try simp only [decide_eq_true_eq, decide_eq_false_iff_not, Bool.not_eq_true', Bool.not_eq_false', Int.not_lt, Int.not_le, ne_eq, Decidable.not_not] at hh22
  refine AX ?_
  refine .gs rfl rfl rfl (by assumption) (zE C53 (.cons (tm rfl) (.cons zG .nil)) (yA _ _ (by assumption) _ _)) ?_
  rintro _ _ ⟨rfl, hH⟩
  obtain rfl := hH.symm
  iterate 3 refine AX ?_
  refine zB (t := 27) rfl (fun hg27 => ?_) (fun hg27 => ?_)
  ·have hh27 := hg27; try simp only [decide_eq_true_eq, decide_eq_false_iff_not, Bool.not_eq_true', Bool.not_eq_false', Int.not_lt, Int.not_le, ne_eq, Decidable.not_not] at hh27
   iterate 22 refine AX ?_
   exact ⟨rfl, zP rfl (by (refine Eq.symm ?_; first | exact decide_eq_true (.inr (.inr (.inr (.inr (.inl hh81))))) | exact decide_eq_decide.2 ⟨fun h => by rcases h with h | h | h | h | h | h <;> first | exact h | omega | (rw [hh81] at h; cases h), fun h => .inr (.inr (.inr (.inr (.inr h))))⟩ | exact decide_eq_true (.inl ⟨hh90, hh94⟩) | exact decide_eq_decide.2 ⟨by rintro (⟨h1, h2⟩ | h | h | ⟨h1, h2⟩) <;> first | omega | simp_all, fun h => .inr (.inr (.inr ⟨by omega, by omega⟩))⟩ | exact decide_eq_false (by rintro (⟨h1, h2⟩ | h | h | ⟨h1, h2⟩) <;> first | omega | simp_all) | ((with_reducible refine decide_eq_decide.2 ?_); (first | omega | simp [*])) | ((with_reducible refine decide_eq_true ?_); (first | omega | simp [*])) | ((with_reducible refine decide_eq_false ?_); (first | omega | simp [*])))) sX, rfl⟩
  have hh27 := hg27; try simp only [decide_eq_true_eq, decide_eq_false_iff_not, Bool.not_eq_true', Bool.not_eq_false', Int.not_lt, Int.not_le, ne_eq, Decidable.not_not] at hh27
  refine AX ?_
  refine .gs rfl rfl rfl (by assumption) (zE C53 (.cons (tm rfl) (.cons zG .nil)) (yA _ _ (by assumption) _ _)) ?_
  rintro _ _ ⟨rfl, hH⟩
  obtain rfl := hH.symm
  iterate 3 refine AX ?_
  refine zB (t := 32) rfl (fun hg32 => ?_) (fun hg32 => ?_)
  ·have hh32 := hg32; try simp only [decide_eq_true_eq, decide_eq_false_iff_not, Bool.not_eq_true', Bool.not_eq_false', Int.not_lt, Int.not_le, ne_eq, Decidable.not_not] at hh32
   iterate 17 refine AX ?_
   exact ⟨rfl, zP rfl (by (refine Eq.symm ?_; first | exact decide_eq_true (.inr (.inr (.inr (.inr (.inl hh81))))) | exact decide_eq_decide.2 ⟨fun h => by rcases h with h | h | h | h | h | h <;> first | exact h | omega | (rw [hh81] at h; cases h), fun h => .inr (.inr (.inr (.inr (.inr h))))⟩ | exact decide_eq_true (.inl ⟨hh90, hh94⟩) | exact decide_eq_decide.2 ⟨by rintro (⟨h1, h2⟩ | h | h | ⟨h1, h2⟩) <;> first | omega | simp_all, fun h => .inr (.inr (.inr ⟨by omega, by omega⟩))⟩ | exact decide_eq_false (by rintro (⟨h1, h2⟩ | h | h | ⟨h1, h2⟩) <;> first | omega | simp_all) | ((with_reducible refine decide_eq_decide.2 ?_); (first | omega | simp [*])) | ((with_reducible refine decide_eq_true ?_); (first | omega | simp [*])) | ((with_reducible refine decide_eq_false ?_); (first | omega | simp [*])))) sX, rfl⟩
  have hh32 := hg32; try simp only [decide_eq_true_eq, decide_eq_false_iff_not, Bool.not_eq_true', Bool.not_eq_false', Int.not_lt, Int.not_le, ne_eq, Decidable.not_not] at hh32
  refine AX ?_
  refine .gs rfl rfl rfl (by assumption) (zE C53 (.cons (tm rfl) (.cons zG .nil)) (yA _ _ (by assumption) _ _)) ?_
  rintro _ _ ⟨rfl, hH⟩
  obtain rfl := hH.symm
  iterate 3 refine AX ?_
  refine zB (t := 37) rfl (fun hg37 => ?_) (fun hg37 => ?_)
  ·have hh37 := hg37; try simp only [decide_eq_true_eq, decide_eq_false_iff_not, Bool.not_eq_true', Bool.not_eq_false', Int.not_lt, Int.not_le, ne_eq, Decidable.not_not] at hh37
   iterate 12 refine AX ?_
   exact ⟨rfl, zP rfl (by (refine Eq.symm ?_; first | exact decide_eq_true (.inr (.inr (.inr (.inr (.inl hh81))))) | exact decide_eq_decide.2 ⟨fun h => by rcases h with h | h | h | h | h | h <;> first | exact h | omega | (rw [hh81] at h; cases h), fun h => .inr (.inr (.inr (.inr (.inr h))))⟩ | exact decide_eq_true (.inl ⟨hh90, hh94⟩) | exact decide_eq_decide.2 ⟨by rintro (⟨h1, h2⟩ | h | h | ⟨h1, h2⟩) <;> first | omega | simp_all, fun h => .inr (.inr (.inr ⟨by omega, by omega⟩))⟩ | exact decide_eq_false (by rintro (⟨h1, h2⟩ | h | h | ⟨h1, h2⟩) <;> first | omega | simp_all) | ((with_reducible refine decide_eq_decide.2 ?_); (first | omega | simp [*])) | ((with_reducible refine decide_eq_true ?_); (first | omega | simp [*])) | ((with_reducible refine decide_eq_false ?_); (first | omega | simp [*])))) sX, rfl⟩
  have hh37 := hg37; try simp only [decide_eq_true_eq, decide_eq_false_iff_not, Bool.not_eq_true', Bool.not_eq_false', Int.not_lt, Int.not_le, ne_eq, Decidable.not_not] at hh37
  iterate 4 refine AX ?_
  refine zB (t := 41) rfl (fun hg41 => ?_) (fun hg41 => ?_)
  ·have hh41 := hg41; try simp only [decide_eq_true_eq, decide_eq_false_iff_not, Bool.not_eq_true', Bool.not_eq_false', Int.not_lt, Int.not_le, ne_eq, Decidable.not_not] at hh41
   iterate 8 refine AX ?_
   exact ⟨rfl, zP rfl (by (refine Eq.symm ?_; first | exact decide_eq_true (.inr (.inr (.inr (.inr (.inl hh81))))) | exact decide_eq_decide.2 ⟨fun h => by rcases h with h | h | h | h | h | h <;> first | exact h | omega | (rw [hh81] at h; cases h), fun h => .inr (.inr (.inr (.inr (.inr h))))⟩ | exact decide_eq_true (.inl ⟨hh90, hh94⟩) | exact decide_eq_decide.2 ⟨by rintro (⟨h1, h2⟩ | h | h | ⟨h1, h2⟩) <;> first | omega | simp_all, fun h => .inr (.inr (.inr ⟨by omega, by omega⟩))⟩ | exact decide_eq_false (by rintro (⟨h1, h2⟩ | h | h | ⟨h1, h2⟩) <;> first | omega | simp_all) | ((with_reducible refine decide_eq_decide.2 ?_); (first | omega | simp [*])) | ((with_reducible refine decide_eq_true ?_); (first | omega | simp [*])) | ((with_reducible refine decide_eq_false ?_); (first | omega | simp [*])))) sX, rfl⟩
  have hh41 := hg41; try simp only [decide_eq_true_eq, decide_eq_false_iff_not, Bool.not_eq_true', Bool.not_eq_false', Int.not_lt, Int.not_le, ne_eq, Decidable.not_not] at hh41
  iterate 3 refine AX ?_
  refine .gp rfl rfl rfl (by assumption) (aoY U46 Z78 (tm rfl) (tm rfl) (tm rfl) (by omega) (by omega) (by omega)) (.gs rfl rfl rfl (by assumption) (zE C53 (.cons (tm rfl) (.cons zG .nil)) (yA ((l.take (atK l 5)).drop (aiU l)) _ (by (rw [List.length_drop, List.length_take]; omega)) _ _)) ?_)
  rintro _ _ ⟨rfl, hH⟩
  obtain rfl := hH.symm
  iterate 3 refine AX ?_
  exact ⟨rfl, zP rfl (by (refine Eq.symm ?_; first | exact decide_eq_true (.inr (.inr (.inr (.inr (.inl hh81))))) | exact decide_eq_decide.2 ⟨fun h => by rcases h with h | h | h | h | h | h <;> first | exact h | omega | (rw [hh81] at h; cases h), fun h => .inr (.inr (.inr (.inr (.inr h))))⟩ | exact decide_eq_true (.inl ⟨hh90, hh94⟩) | exact decide_eq_decide.2 ⟨by rintro (⟨h1, h2⟩ | h | h | ⟨h1, h2⟩) <;> first | omega | simp_all, fun h => .inr (.inr (.inr ⟨by omega, by omega⟩))⟩ | exact decide_eq_false (by rintro (⟨h1, h2⟩ | h | h | ⟨h1, h2⟩) <;> first | omega | simp_all) | ((with_reducible refine decide_eq_decide.2 ?_); (first | omega | simp [*])) | ((with_reducible refine decide_eq_true ?_); (first | omega | simp [*])) | ((with_reducible refine decide_eq_false ?_); (first | omega | simp [*])))) sX, rfl⟩
 refine AWP.sub [(48, _), (1, _), (2, _), (3, _), (5, _), (6, _)] sX ?_
 refine AWP.cx rfl (fun hc48 => ?_) (fun hc48 => ?_)
 ·iterate 8 refine AX ?_
  refine ⟨?_, rfl⟩
  unfold arL
  rw [if_pos hc48]
  rfl
 iterate 11 refine AX ?_
 refine AWP.cx rfl (fun hc52 => ?_) (fun hc52 => ?_)
 ·iterate 5 refine AX ?_
  refine .cl rfl C53 (.cons (tm rfl) (.cons zG .nil)) (yA (l.drop (atK l 5)) _ (by (rw [List.length_drop]; omega)) _ _) ?_
  iterate 4 refine AX ?_
  refine AWP.seqTo 85 (.bool (decide (zO (l.take (atK l 5)) 2 = 0 ∨ zO (l.drop (atK l 5)) 2 < 1 ∨ zO (l.drop (atK l 5)) 2 > 4 ∨ zO (l.drop (atK l 5)) 3 > 0 ∨ gr = true ∨ sc ≠ 0))) [1, 2, 3, 6] ?_ ?_
  ·-- region 9
   iterate 4 refine AX ?_
   refine .cl rfl C53 (.cons (tm rfl) (.cons zG .nil)) (yA (l.take (atK l 5)) _ (by (rw [List.length_take]; omega)) _ _) ?_
   iterate 2 refine AX ?_
   refine zB (t := 62) rfl (fun hg62 => ?_) (fun hg62 => ?_)
   ·have hh62 := hg62; try simp only [decide_eq_true_eq, decide_eq_false_iff_not, Bool.not_eq_true', Bool.not_eq_false', Int.not_lt, Int.not_le, ne_eq, Decidable.not_not] at hh62
    iterate 24 refine AX ?_
    exact ⟨rfl, zP rfl (by (refine Eq.symm ?_; first | exact decide_eq_true (.inr (.inr (.inr (.inr (.inl hh81))))) | exact decide_eq_decide.2 ⟨fun h => by rcases h with h | h | h | h | h | h <;> first | exact h | omega | (rw [hh81] at h; cases h), fun h => .inr (.inr (.inr (.inr (.inr h))))⟩ | exact decide_eq_true (.inl ⟨hh90, hh94⟩) | exact decide_eq_decide.2 ⟨by rintro (⟨h1, h2⟩ | h | h | ⟨h1, h2⟩) <;> first | omega | simp_all, fun h => .inr (.inr (.inr ⟨by omega, by omega⟩))⟩ | exact decide_eq_false (by rintro (⟨h1, h2⟩ | h | h | ⟨h1, h2⟩) <;> first | omega | simp_all) | ((with_reducible refine decide_eq_decide.2 ?_); (first | omega | simp [*])) | ((with_reducible refine decide_eq_true ?_); (first | omega | simp [*])) | ((with_reducible refine decide_eq_false ?_); (first | omega | simp [*])))) sX, rfl⟩
   have hh62 := hg62; try simp only [decide_eq_true_eq, decide_eq_false_iff_not, Bool.not_eq_true', Bool.not_eq_false', Int.not_lt, Int.not_le, ne_eq, Decidable.not_not] at hh62
   iterate 4 refine AX ?_
   refine zB (t := 66) rfl (fun hg66 => ?_) (fun hg66 => ?_)
   ·have hh66 := hg66; try simp only [decide_eq_true_eq, decide_eq_false_iff_not, Bool.not_eq_true', Bool.not_eq_false', Int.not_lt, Int.not_le, ne_eq, Decidable.not_not] at hh66
    iterate 20 refine AX ?_
    exact ⟨rfl, zP rfl (by (refine Eq.symm ?_; first | exact decide_eq_true (.inr (.inr (.inr (.inr (.inl hh81))))) | exact decide_eq_decide.2 ⟨fun h => by rcases h with h | h | h | h | h | h <;> first | exact h | omega | (rw [hh81] at h; cases h), fun h => .inr (.inr (.inr (.inr (.inr h))))⟩ | exact decide_eq_true (.inl ⟨hh90, hh94⟩) | exact decide_eq_decide.2 ⟨by rintro (⟨h1, h2⟩ | h | h | ⟨h1, h2⟩) <;> first | omega | simp_all, fun h => .inr (.inr (.inr ⟨by omega, by omega⟩))⟩ | exact decide_eq_false (by rintro (⟨h1, h2⟩ | h | h | ⟨h1, h2⟩) <;> first | omega | simp_all) | ((with_reducible refine decide_eq_decide.2 ?_); (first | omega | simp [*])) | ((with_reducible refine decide_eq_true ?_); (first | omega | simp [*])) | ((with_reducible refine decide_eq_false ?_); (first | omega | simp [*])))) sX, rfl⟩
   have hh66 := hg66; try simp only [decide_eq_true_eq, decide_eq_false_iff_not, Bool.not_eq_true', Bool.not_eq_false', Int.not_lt, Int.not_le, ne_eq, Decidable.not_not] at hh66
   iterate 4 refine AX ?_
   refine zB (t := 70) rfl (fun hg70 => ?_) (fun hg70 => ?_)
   ·have hh70 := hg70; try simp only [decide_eq_true_eq, decide_eq_false_iff_not, Bool.not_eq_true', Bool.not_eq_false', Int.not_lt, Int.not_le, ne_eq, Decidable.not_not] at hh70
    iterate 16 refine AX ?_
    exact ⟨rfl, zP rfl (by (refine Eq.symm ?_; first | exact decide_eq_true (.inr (.inr (.inr (.inr (.inl hh81))))) | exact decide_eq_decide.2 ⟨fun h => by rcases h with h | h | h | h | h | h <;> first | exact h | omega | (rw [hh81] at h; cases h), fun h => .inr (.inr (.inr (.inr (.inr h))))⟩ | exact decide_eq_true (.inl ⟨hh90, hh94⟩) | exact decide_eq_decide.2 ⟨by rintro (⟨h1, h2⟩ | h | h | ⟨h1, h2⟩) <;> first | omega | simp_all, fun h => .inr (.inr (.inr ⟨by omega, by omega⟩))⟩ | exact decide_eq_false (by rintro (⟨h1, h2⟩ | h | h | ⟨h1, h2⟩) <;> first | omega | simp_all) | ((with_reducible refine decide_eq_decide.2 ?_); (first | omega | simp [*])) | ((with_reducible refine decide_eq_true ?_); (first | omega | simp [*])) | ((with_reducible refine decide_eq_false ?_); (first | omega | simp [*])))) sX, rfl⟩
   have hh70 := hg70; try simp only [decide_eq_true_eq, decide_eq_false_iff_not, Bool.not_eq_true', Bool.not_eq_false', Int.not_lt, Int.not_le, ne_eq, Decidable.not_not] at hh70
   iterate 3 refine AX ?_
   refine .gs rfl rfl rfl (by assumption) (zE C53 (.cons (tm rfl) (.cons zG .nil)) (yA (l.drop (atK l 5)) _ (by (rw [List.length_drop]; omega)) _ _)) ?_
   rintro _ _ ⟨rfl, hH⟩
   obtain rfl := hH.symm
   iterate 3 refine AX ?_
   refine zB (t := 77) rfl (fun hg77 => ?_) (fun hg77 => ?_)
   ·have hh77 := hg77; try simp only [decide_eq_true_eq, decide_eq_false_iff_not, Bool.not_eq_true', Bool.not_eq_false', Int.not_lt, Int.not_le, ne_eq, Decidable.not_not] at hh77
    iterate 9 refine AX ?_
    exact ⟨rfl, zP rfl (by (refine Eq.symm ?_; first | exact decide_eq_true (.inr (.inr (.inr (.inr (.inl hh81))))) | exact decide_eq_decide.2 ⟨fun h => by rcases h with h | h | h | h | h | h <;> first | exact h | omega | (rw [hh81] at h; cases h), fun h => .inr (.inr (.inr (.inr (.inr h))))⟩ | exact decide_eq_true (.inl ⟨hh90, hh94⟩) | exact decide_eq_decide.2 ⟨by rintro (⟨h1, h2⟩ | h | h | ⟨h1, h2⟩) <;> first | omega | simp_all, fun h => .inr (.inr (.inr ⟨by omega, by omega⟩))⟩ | exact decide_eq_false (by rintro (⟨h1, h2⟩ | h | h | ⟨h1, h2⟩) <;> first | omega | simp_all) | ((with_reducible refine decide_eq_decide.2 ?_); (first | omega | simp [*])) | ((with_reducible refine decide_eq_true ?_); (first | omega | simp [*])) | ((with_reducible refine decide_eq_false ?_); (first | omega | simp [*])))) sX, rfl⟩
   have hh77 := hg77; try simp only [decide_eq_true_eq, decide_eq_false_iff_not, Bool.not_eq_true', Bool.not_eq_false', Int.not_lt, Int.not_le, ne_eq, Decidable.not_not] at hh77
   refine .gp rfl rfl rfl (by assumption) (zA U48 rfl Z4 (tm rfl)) ?_
   iterate 3 refine AX ?_
   refine zB (t := 81) rfl (fun hg81 => ?_) (fun hg81 => ?_)
   ·have hh81 := hg81; try simp only [decide_eq_true_eq, decide_eq_false_iff_not, Bool.not_eq_true', Bool.not_eq_false', Int.not_lt, Int.not_le, ne_eq, Decidable.not_not] at hh81
    iterate 5 refine AX ?_
    exact ⟨rfl, zP rfl (by (refine Eq.symm ?_; first | exact decide_eq_true (.inr (.inr (.inr (.inr (.inl hh81))))) | exact decide_eq_decide.2 ⟨fun h => by rcases h with h | h | h | h | h | h <;> first | exact h | omega | (rw [hh81] at h; cases h), fun h => .inr (.inr (.inr (.inr (.inr h))))⟩ | exact decide_eq_true (.inl ⟨hh90, hh94⟩) | exact decide_eq_decide.2 ⟨by rintro (⟨h1, h2⟩ | h | h | ⟨h1, h2⟩) <;> first | omega | simp_all, fun h => .inr (.inr (.inr ⟨by omega, by omega⟩))⟩ | exact decide_eq_false (by rintro (⟨h1, h2⟩ | h | h | ⟨h1, h2⟩) <;> first | omega | simp_all) | ((with_reducible refine decide_eq_decide.2 ?_); (first | omega | simp [*])) | ((with_reducible refine decide_eq_true ?_); (first | omega | simp [*])) | ((with_reducible refine decide_eq_false ?_); (first | omega | simp [*])))) sX, rfl⟩
   have hh81 := hg81; try simp only [decide_eq_true_eq, decide_eq_false_iff_not, Bool.not_eq_true', Bool.not_eq_false', Int.not_lt, Int.not_le, ne_eq, Decidable.not_not] at hh81
   refine .gp rfl rfl rfl (by assumption) (zA U48 rfl Z3 (tm rfl)) ?_
   iterate 4 refine AX ?_
   exact ⟨rfl, zP rfl (by (refine Eq.symm ?_; first | exact decide_eq_true (.inr (.inr (.inr (.inr (.inl hh81))))) | exact decide_eq_decide.2 ⟨fun h => by rcases h with h | h | h | h | h | h <;> first | exact h | omega | (rw [hh81] at h; cases h), fun h => .inr (.inr (.inr (.inr (.inr h))))⟩ | exact decide_eq_true (.inl ⟨hh90, hh94⟩) | exact decide_eq_decide.2 ⟨by rintro (⟨h1, h2⟩ | h | h | ⟨h1, h2⟩) <;> first | omega | simp_all, fun h => .inr (.inr (.inr ⟨by omega, by omega⟩))⟩ | exact decide_eq_false (by rintro (⟨h1, h2⟩ | h | h | ⟨h1, h2⟩) <;> first | omega | simp_all) | ((with_reducible refine decide_eq_decide.2 ?_); (first | omega | simp [*])) | ((with_reducible refine decide_eq_true ?_); (first | omega | simp [*])) | ((with_reducible refine decide_eq_false ?_); (first | omega | simp [*])))) sX, rfl⟩
  refine AWP.sub [(85, _), (1, _), (2, _), (3, _), (6, _)] sX ?_
  refine AWP.cx rfl (fun hc85 => ?_) (fun hc85 => ?_)
  ·iterate 9 refine AX ?_
   refine ⟨?_, rfl⟩
   unfold arL
   rw [if_neg hc48, if_pos (show atK l 5 < l.length by omega), if_pos hc85]
   rfl
  iterate 10 refine AX ?_
  refine ⟨?_, rfl⟩
  unfold arL
  rw [if_neg hc48, if_pos (show atK l 5 < l.length by omega), if_neg hc85]
  rfl
 iterate 5 refine AX ?_
 refine .cl rfl Tryz.call131 (evs1 rfl) (axZ _ _ (by assumption) _) ?_
 iterate 4 refine AX ?_
 refine AWP.seqTo 112 (.bool (decide (gr = true ∧ aaA (l.take (aiU l)) = false ∨ sc < 0 ∨ sc > 9 ∨ sc > 0 ∧ zO (l.take (aiU l)) 2 = 0))) [2] ?_ ?_
 ·-- region 13
  refine AX ?_
  refine .p rfl (zA U48 rfl Z4 (tm rfl)) ?_
  iterate 2 refine AX ?_
  refine zB (t := 90) rfl (fun hg90 => ?_) (fun hg90 => ?_)
  ·have hh90 := hg90; try simp only [decide_eq_true_eq, decide_eq_false_iff_not, Bool.not_eq_true', Bool.not_eq_false', Int.not_lt, Int.not_le, ne_eq, Decidable.not_not] at hh90
   iterate 4 refine AX ?_
   refine zB (t := 94) rfl (fun hg94 => ?_) (fun hg94 => ?_)
   ·have hh94 := hg94; try simp only [decide_eq_true_eq, decide_eq_false_iff_not, Bool.not_eq_true', Bool.not_eq_false', Int.not_lt, Int.not_le, ne_eq, Decidable.not_not] at hh94
    iterate 19 refine AX ?_
    exact ⟨rfl, zP rfl (by (refine Eq.symm ?_; first | exact decide_eq_true (.inr (.inr (.inr (.inr (.inl hh81))))) | exact decide_eq_decide.2 ⟨fun h => by rcases h with h | h | h | h | h | h <;> first | exact h | omega | (rw [hh81] at h; cases h), fun h => .inr (.inr (.inr (.inr (.inr h))))⟩ | exact decide_eq_true (.inl ⟨hh90, hh94⟩) | exact decide_eq_decide.2 ⟨by rintro (⟨h1, h2⟩ | h | h | ⟨h1, h2⟩) <;> first | omega | simp_all, fun h => .inr (.inr (.inr ⟨by omega, by omega⟩))⟩ | exact decide_eq_false (by rintro (⟨h1, h2⟩ | h | h | ⟨h1, h2⟩) <;> first | omega | simp_all) | ((with_reducible refine decide_eq_decide.2 ?_); (first | omega | simp [*])) | ((with_reducible refine decide_eq_true ?_); (first | omega | simp [*])) | ((with_reducible refine decide_eq_false ?_); (first | omega | simp [*])))) (zJ rfl yF), rfl⟩
   have hh94 := hg94; try simp only [decide_eq_true_eq, decide_eq_false_iff_not, Bool.not_eq_true', Bool.not_eq_false', Int.not_lt, Int.not_le, ne_eq, Decidable.not_not] at hh94
   refine .gp rfl rfl rfl (by assumption) (zA U48 rfl Z3 (tm rfl)) ?_
   iterate 4 refine AX ?_
   refine zB (t := 99) rfl (fun hg99 => ?_) (fun hg99 => ?_)
   ·have hh99 := hg99; try simp only [decide_eq_true_eq, decide_eq_false_iff_not, Bool.not_eq_true', Bool.not_eq_false', Int.not_lt, Int.not_le, ne_eq, Decidable.not_not] at hh99
    iterate 14 refine AX ?_
    exact ⟨rfl, zP rfl (by (refine Eq.symm ?_; first | exact decide_eq_true (.inr (.inr (.inr (.inr (.inl hh81))))) | exact decide_eq_decide.2 ⟨fun h => by rcases h with h | h | h | h | h | h <;> first | exact h | omega | (rw [hh81] at h; cases h), fun h => .inr (.inr (.inr (.inr (.inr h))))⟩ | exact decide_eq_true (.inl ⟨hh90, hh94⟩) | exact decide_eq_decide.2 ⟨by rintro (⟨h1, h2⟩ | h | h | ⟨h1, h2⟩) <;> first | omega | simp_all, fun h => .inr (.inr (.inr ⟨by omega, by omega⟩))⟩ | exact decide_eq_false (by rintro (⟨h1, h2⟩ | h | h | ⟨h1, h2⟩) <;> first | omega | simp_all) | ((with_reducible refine decide_eq_decide.2 ?_); (first | omega | simp [*])) | ((with_reducible refine decide_eq_true ?_); (first | omega | simp [*])) | ((with_reducible refine decide_eq_false ?_); (first | omega | simp [*])))) (zJ rfl yF), rfl⟩
   have hh99 := hg99; try simp only [decide_eq_true_eq, decide_eq_false_iff_not, Bool.not_eq_true', Bool.not_eq_false', Int.not_lt, Int.not_le, ne_eq, Decidable.not_not] at hh99
   refine .gp rfl rfl rfl (by assumption) (zA U48 rfl Z3 (tm rfl)) ?_
   iterate 4 refine AX ?_
   refine zB (t := 104) rfl (fun hg104 => ?_) (fun hg104 => ?_)
   ·have hh104 := hg104; try simp only [decide_eq_true_eq, decide_eq_false_iff_not, Bool.not_eq_true', Bool.not_eq_false', Int.not_lt, Int.not_le, ne_eq, Decidable.not_not] at hh104
    iterate 9 refine AX ?_
    exact ⟨rfl, zP rfl (by (refine Eq.symm ?_; first | exact decide_eq_true (.inr (.inr (.inr (.inr (.inl hh81))))) | exact decide_eq_decide.2 ⟨fun h => by rcases h with h | h | h | h | h | h <;> first | exact h | omega | (rw [hh81] at h; cases h), fun h => .inr (.inr (.inr (.inr (.inr h))))⟩ | exact decide_eq_true (.inl ⟨hh90, hh94⟩) | exact decide_eq_decide.2 ⟨by rintro (⟨h1, h2⟩ | h | h | ⟨h1, h2⟩) <;> first | omega | simp_all, fun h => .inr (.inr (.inr ⟨by omega, by omega⟩))⟩ | exact decide_eq_false (by rintro (⟨h1, h2⟩ | h | h | ⟨h1, h2⟩) <;> first | omega | simp_all) | ((with_reducible refine decide_eq_decide.2 ?_); (first | omega | simp [*])) | ((with_reducible refine decide_eq_true ?_); (first | omega | simp [*])) | ((with_reducible refine decide_eq_false ?_); (first | omega | simp [*])))) (zJ rfl yF), rfl⟩
   have hh104 := hg104; try simp only [decide_eq_true_eq, decide_eq_false_iff_not, Bool.not_eq_true', Bool.not_eq_false', Int.not_lt, Int.not_le, ne_eq, Decidable.not_not] at hh104
   refine .gp rfl rfl rfl (by assumption) (zA U48 rfl Z3 (tm rfl)) ?_
   iterate 3 refine AX ?_
   refine zB (t := 108) rfl (fun hg108 => ?_) (fun hg108 => ?_)
   ·have hh108 := hg108; try simp only [decide_eq_true_eq, decide_eq_false_iff_not, Bool.not_eq_true', Bool.not_eq_false', Int.not_lt, Int.not_le, ne_eq, Decidable.not_not] at hh108
    iterate 5 refine AX ?_
    exact ⟨rfl, zP rfl (by (refine Eq.symm ?_; first | exact decide_eq_true (.inr (.inr (.inr (.inr (.inl hh81))))) | exact decide_eq_decide.2 ⟨fun h => by rcases h with h | h | h | h | h | h <;> first | exact h | omega | (rw [hh81] at h; cases h), fun h => .inr (.inr (.inr (.inr (.inr h))))⟩ | exact decide_eq_true (.inl ⟨hh90, hh94⟩) | exact decide_eq_decide.2 ⟨by rintro (⟨h1, h2⟩ | h | h | ⟨h1, h2⟩) <;> first | omega | simp_all, fun h => .inr (.inr (.inr ⟨by omega, by omega⟩))⟩ | exact decide_eq_false (by rintro (⟨h1, h2⟩ | h | h | ⟨h1, h2⟩) <;> first | omega | simp_all) | ((with_reducible refine decide_eq_decide.2 ?_); (first | omega | simp [*])) | ((with_reducible refine decide_eq_true ?_); (first | omega | simp [*])) | ((with_reducible refine decide_eq_false ?_); (first | omega | simp [*])))) (zJ rfl yF), rfl⟩
   have hh108 := hg108; try simp only [decide_eq_true_eq, decide_eq_false_iff_not, Bool.not_eq_true', Bool.not_eq_false', Int.not_lt, Int.not_le, ne_eq, Decidable.not_not] at hh108
   iterate 5 refine AX ?_
   exact ⟨rfl, zP rfl (by (refine Eq.symm ?_; first | exact decide_eq_true (.inr (.inr (.inr (.inr (.inl hh81))))) | exact decide_eq_decide.2 ⟨fun h => by rcases h with h | h | h | h | h | h <;> first | exact h | omega | (rw [hh81] at h; cases h), fun h => .inr (.inr (.inr (.inr (.inr h))))⟩ | exact decide_eq_true (.inl ⟨hh90, hh94⟩) | exact decide_eq_decide.2 ⟨by rintro (⟨h1, h2⟩ | h | h | ⟨h1, h2⟩) <;> first | omega | simp_all, fun h => .inr (.inr (.inr ⟨by omega, by omega⟩))⟩ | exact decide_eq_false (by rintro (⟨h1, h2⟩ | h | h | ⟨h1, h2⟩) <;> first | omega | simp_all) | ((with_reducible refine decide_eq_decide.2 ?_); (first | omega | simp [*])) | ((with_reducible refine decide_eq_true ?_); (first | omega | simp [*])) | ((with_reducible refine decide_eq_false ?_); (first | omega | simp [*])))) (zJ rfl yF), rfl⟩
  have hh90 := hg90; try simp only [decide_eq_true_eq, decide_eq_false_iff_not, Bool.not_eq_true', Bool.not_eq_false', Int.not_lt, Int.not_le, ne_eq, Decidable.not_not] at hh90
  iterate 4 refine AX ?_
  refine .gp rfl rfl rfl (by rfl) (zA U48 rfl Z3 (tm rfl)) ?_
  iterate 4 refine AX ?_
  refine zB (t := 99) rfl (fun hg99 => ?_) (fun hg99 => ?_)
  ·have hh99 := hg99; try simp only [decide_eq_true_eq, decide_eq_false_iff_not, Bool.not_eq_true', Bool.not_eq_false', Int.not_lt, Int.not_le, ne_eq, Decidable.not_not] at hh99
   iterate 14 refine AX ?_
   exact ⟨rfl, zP rfl (by (refine Eq.symm ?_; first | exact decide_eq_true (.inr (.inr (.inr (.inr (.inl hh81))))) | exact decide_eq_decide.2 ⟨fun h => by rcases h with h | h | h | h | h | h <;> first | exact h | omega | (rw [hh81] at h; cases h), fun h => .inr (.inr (.inr (.inr (.inr h))))⟩ | exact decide_eq_true (.inl ⟨hh90, hh94⟩) | exact decide_eq_decide.2 ⟨by rintro (⟨h1, h2⟩ | h | h | ⟨h1, h2⟩) <;> first | omega | simp_all, fun h => .inr (.inr (.inr ⟨by omega, by omega⟩))⟩ | exact decide_eq_false (by rintro (⟨h1, h2⟩ | h | h | ⟨h1, h2⟩) <;> first | omega | simp_all) | ((with_reducible refine decide_eq_decide.2 ?_); (first | omega | simp [*])) | ((with_reducible refine decide_eq_true ?_); (first | omega | simp [*])) | ((with_reducible refine decide_eq_false ?_); (first | omega | simp [*])))) (zJ rfl yF), rfl⟩
  have hh99 := hg99; try simp only [decide_eq_true_eq, decide_eq_false_iff_not, Bool.not_eq_true', Bool.not_eq_false', Int.not_lt, Int.not_le, ne_eq, Decidable.not_not] at hh99
  refine .gp rfl rfl rfl (by assumption) (zA U48 rfl Z3 (tm rfl)) ?_
  iterate 4 refine AX ?_
  refine zB (t := 104) rfl (fun hg104 => ?_) (fun hg104 => ?_)
  ·have hh104 := hg104; try simp only [decide_eq_true_eq, decide_eq_false_iff_not, Bool.not_eq_true', Bool.not_eq_false', Int.not_lt, Int.not_le, ne_eq, Decidable.not_not] at hh104
   iterate 9 refine AX ?_
   exact ⟨rfl, zP rfl (by (refine Eq.symm ?_; first | exact decide_eq_true (.inr (.inr (.inr (.inr (.inl hh81))))) | exact decide_eq_decide.2 ⟨fun h => by rcases h with h | h | h | h | h | h <;> first | exact h | omega | (rw [hh81] at h; cases h), fun h => .inr (.inr (.inr (.inr (.inr h))))⟩ | exact decide_eq_true (.inl ⟨hh90, hh94⟩) | exact decide_eq_decide.2 ⟨by rintro (⟨h1, h2⟩ | h | h | ⟨h1, h2⟩) <;> first | omega | simp_all, fun h => .inr (.inr (.inr ⟨by omega, by omega⟩))⟩ | exact decide_eq_false (by rintro (⟨h1, h2⟩ | h | h | ⟨h1, h2⟩) <;> first | omega | simp_all) | ((with_reducible refine decide_eq_decide.2 ?_); (first | omega | simp [*])) | ((with_reducible refine decide_eq_true ?_); (first | omega | simp [*])) | ((with_reducible refine decide_eq_false ?_); (first | omega | simp [*])))) (zJ rfl yF), rfl⟩
  have hh104 := hg104; try simp only [decide_eq_true_eq, decide_eq_false_iff_not, Bool.not_eq_true', Bool.not_eq_false', Int.not_lt, Int.not_le, ne_eq, Decidable.not_not] at hh104
  refine .gp rfl rfl rfl (by assumption) (zA U48 rfl Z3 (tm rfl)) ?_
  iterate 3 refine AX ?_
  refine zB (t := 108) rfl (fun hg108 => ?_) (fun hg108 => ?_)
  ·have hh108 := hg108; try simp only [decide_eq_true_eq, decide_eq_false_iff_not, Bool.not_eq_true', Bool.not_eq_false', Int.not_lt, Int.not_le, ne_eq, Decidable.not_not] at hh108
   iterate 5 refine AX ?_
   exact ⟨rfl, zP rfl (by (refine Eq.symm ?_; first | exact decide_eq_true (.inr (.inr (.inr (.inr (.inl hh81))))) | exact decide_eq_decide.2 ⟨fun h => by rcases h with h | h | h | h | h | h <;> first | exact h | omega | (rw [hh81] at h; cases h), fun h => .inr (.inr (.inr (.inr (.inr h))))⟩ | exact decide_eq_true (.inl ⟨hh90, hh94⟩) | exact decide_eq_decide.2 ⟨by rintro (⟨h1, h2⟩ | h | h | ⟨h1, h2⟩) <;> first | omega | simp_all, fun h => .inr (.inr (.inr ⟨by omega, by omega⟩))⟩ | exact decide_eq_false (by rintro (⟨h1, h2⟩ | h | h | ⟨h1, h2⟩) <;> first | omega | simp_all) | ((with_reducible refine decide_eq_decide.2 ?_); (first | omega | simp [*])) | ((with_reducible refine decide_eq_true ?_); (first | omega | simp [*])) | ((with_reducible refine decide_eq_false ?_); (first | omega | simp [*])))) (zJ rfl yF), rfl⟩
  have hh108 := hg108; try simp only [decide_eq_true_eq, decide_eq_false_iff_not, Bool.not_eq_true', Bool.not_eq_false', Int.not_lt, Int.not_le, ne_eq, Decidable.not_not] at hh108
  iterate 5 refine AX ?_
  exact ⟨rfl, zP rfl (by (refine Eq.symm ?_; first | exact decide_eq_true (.inr (.inr (.inr (.inr (.inl hh81))))) | exact decide_eq_decide.2 ⟨fun h => by rcases h with h | h | h | h | h | h <;> first | exact h | omega | (rw [hh81] at h; cases h), fun h => .inr (.inr (.inr (.inr (.inr h))))⟩ | exact decide_eq_true (.inl ⟨hh90, hh94⟩) | exact decide_eq_decide.2 ⟨by rintro (⟨h1, h2⟩ | h | h | ⟨h1, h2⟩) <;> first | omega | simp_all, fun h => .inr (.inr (.inr ⟨by omega, by omega⟩))⟩ | exact decide_eq_false (by rintro (⟨h1, h2⟩ | h | h | ⟨h1, h2⟩) <;> first | omega | simp_all) | ((with_reducible refine decide_eq_decide.2 ?_); (first | omega | simp [*])) | ((with_reducible refine decide_eq_true ?_); (first | omega | simp [*])) | ((with_reducible refine decide_eq_false ?_); (first | omega | simp [*])))) (zJ rfl yF), rfl⟩
 refine AWP.sub [(112, _), (2, _)] sX ?_
 refine AWP.cx rfl (fun hc112 => ?_) (fun hc112 => ?_)
 ·iterate 8 refine AX ?_
  refine ⟨?_, rfl⟩
  unfold arL
  rw [if_neg hc48, if_neg (show ¬ atK l 5 < l.length by omega), if_pos hc112]
  rfl
 iterate 9 refine AX ?_
 refine ⟨?_, rfl⟩
 unfold arL
 rw [if_neg hc48, if_neg (show ¬ atK l 5 < l.length by omega), if_neg hc112]
 rfl

def avY (l : List ItN) (gr : Bool) (sc : Int) (tl : Tail) (H : Heap) : Nat → Env → Heap → Prop := fun k env H1 => ∃ i : Nat, i ≤ l.length ∧ (l.take i).all aeA = true ∧ env = [(1, .iptr [itS l tl, .bool gr, .int .i64 sc]), (3, itS l tl), (4, .int .i64 (i : Int))] ∧ H = H1 ∧ k = l.length - i

theorem afG (l : List ItN) (gr : Bool) (sc : Int) (tl : Tail) (hl : l.length ≤ 100000) (H : Heap) : ACall Tryz.prog 16 [.agg [itS l tl, .bool gr, .int .i64 sc]] H (fun y H' => y = .int .i64 (zX ⟨l, gr, sc⟩) ∧ H' = H) := by
 have hn2 := qE l 2
 have hn3 := qE l 3
 have hn4 := qE l 4
 have hn5 := qE l 5
 have hn6 := qE l 6
 have hn7 := qE l 7
 have hn8 := qE l 8
 have hn9 := qE l 9
 refine ACall.of_body Tryz.func16 rfl Tryz.ntmps16 Tryz.results16 rfl ?_
 iterate 8 refine AX ?_
 refine .p rfl (zA U48 rfl Z46 (tm rfl)) ?_
 iterate 11 refine AX ?_
 refine AWP.loopW (avY l gr sc tl H) (l.length) ⟨0, Nat.zero_le _, rfl, rfl, rfl, rfl⟩ sX (hRa _) ?_
 rintro _ _ _ ⟨i, hi, hall, rfl, rfl, rfl⟩
 iterate 9 refine AX ?_
 refine AWP.cx rfl (fun hc14 => ?_) (fun hc14 => ?_)
 ·iterate 10 refine AX ?_
  refine .cl rfl Tryz.call52 (evs1 rfl) (atP _ _) ?_
  iterate 9 refine AX ?_
  refine AWP.cx rfl (fun hc23 => ?_) (fun hc23 => ?_)
  ·iterate 12 refine AX ?_
   have hna := beU (show i < l.length by omega) (by simpa using hc23)
   refine ⟨?_, rfl⟩
   rw [← abV]
   unfold aeU
   rw [if_pos hna]; rfl
  iterate 9 refine AX ?_
  refine Round.mk (J := avY l gr sc tl H) ⟨i + 1, by omega, awZ hall (by omega) (by simpa using hc23), rfl, rfl, rfl⟩ sX (hRa _) (by omega)
 have hil : i = l.length := by omega
 subst hil
 rw [List.take_length] at hall
 iterate 8 refine AX ?_
 refine .cl rfl C53 (.cons (tm rfl) (.cons zG .nil)) (yA _ _ (by assumption) _ _) ?_
 iterate 3 refine AX ?_
 refine AWP.seqTo 7 (.bool (decide (gr = false ∧ sc = 0))) [1, 3, 6] ?_ ?_
 ·-- region 9
  refine AX ?_
  refine .p rfl (zA U48 rfl Z4 (tm rfl)) ?_
  iterate 3 refine AX ?_
  refine zB (t := 29) rfl (fun hg29 => ?_) (fun hg29 => ?_)
  ·have hh29 := hg29; try simp only [decide_eq_true_eq, decide_eq_false_iff_not, Bool.not_eq_true', Bool.not_eq_false', Int.not_lt, Int.not_le, ne_eq, Decidable.not_not] at hh29
   refine .gp rfl rfl rfl (by assumption) (zA U48 rfl Z3 (tm rfl)) ?_
   iterate 5 refine AX ?_
   exact ⟨rfl, zP rfl (by (refine Eq.symm ?_; first | exact decide_eq_decide.2 ⟨fun h => h.2.2, fun h => ⟨by omega, by omega, h⟩⟩ | exact decide_eq_false (fun h => by have h1 := h.1; have h2 := h.2.1; omega) | exact decide_eq_decide.2 ⟨fun h => h.2, fun h => ⟨by omega, h⟩⟩ | exact decide_eq_false (fun h => by have h1 := h.1; omega) | exact decide_eq_decide.2 ⟨fun h => h.2, fun h => ⟨hh29, h⟩⟩ | exact decide_eq_false (fun h => by rw [hh29] at h; cases h.1))) sX, rfl⟩
  have hh29 := hg29; try simp only [decide_eq_true_eq, decide_eq_false_iff_not, Bool.not_eq_true', Bool.not_eq_false', Int.not_lt, Int.not_le, ne_eq, Decidable.not_not] at hh29
  iterate 6 refine AX ?_
  exact ⟨rfl, zP rfl (by (refine Eq.symm ?_; first | exact decide_eq_decide.2 ⟨fun h => h.2.2, fun h => ⟨by omega, by omega, h⟩⟩ | exact decide_eq_false (fun h => by have h1 := h.1; have h2 := h.2.1; omega) | exact decide_eq_decide.2 ⟨fun h => h.2, fun h => ⟨by omega, h⟩⟩ | exact decide_eq_false (fun h => by have h1 := h.1; omega) | exact decide_eq_decide.2 ⟨fun h => h.2, fun h => ⟨hh29, h⟩⟩ | exact decide_eq_false (fun h => by rw [hh29] at h; cases h.1))) sX, rfl⟩
 refine AWP.sub [(7, _), (1, _), (3, _), (6, _)] sX ?_
 iterate 3 refine AX ?_
 refine .cl rfl C53 (.cons (tm rfl) (.cons zG .nil)) (yA _ _ (by assumption) _ _) ?_
 refine AX ?_
 refine .cl rfl C53 (.cons (tm rfl) (.cons zG .nil)) (yA _ _ (by assumption) _ _) ?_
 iterate 2 refine AX ?_
 refine .cl rfl C53 (.cons (tm rfl) (.cons zG .nil)) (yA _ _ (by assumption) _ _) ?_
 iterate 2 refine AX ?_
 refine .cl rfl C53 (.cons (tm rfl) (.cons zG .nil)) (yA _ _ (by assumption) _ _) ?_
 iterate 9 refine AX ?_
 refine .cl rfl C53 (.cons (tm rfl) (.cons zG .nil)) (yA _ _ (by assumption) _ _) ?_
 iterate 4 refine AX ?_
 refine AWP.cx rfl (fun hc45 => ?_) (fun hc45 => ?_)
 ·refine AX ?_
  refine AWP.seqTo 63 (.bool (decide (zO l 7 = 1 ∧ zO l 2 + (zO l 3 + zO l 4 + zO l 5 + zO l 6) + zO l 8 = 0 ∧ (gr = false ∧ sc = 0)))) [7, 1, 3, 6, 8] ?_ ?_
  ·-- region 12
   iterate 2 refine AX ?_
   refine .cl rfl C53 (.cons (tm rfl) (.cons zG .nil)) (yA _ _ (by assumption) _ _) ?_
   iterate 2 refine AX ?_
   refine zB (t := 52) rfl (fun hg52 => ?_) (fun hg52 => ?_)
   ·have hh52 := hg52; try simp only [decide_eq_true_eq, decide_eq_false_iff_not, Bool.not_eq_true', Bool.not_eq_false', Int.not_lt, Int.not_le, ne_eq, Decidable.not_not] at hh52
    iterate 4 refine AX ?_
    refine .gs rfl rfl rfl (by assumption) (zE C53 (.cons (tm rfl) (.cons zG .nil)) (yA _ _ (by assumption) _ _)) ?_
    rintro _ _ ⟨rfl, hH⟩
    obtain rfl := hH.symm
    iterate 4 refine AX ?_
    refine zB (t := 61) rfl (fun hg61 => ?_) (fun hg61 => ?_)
    ·have hh61 := hg61; try simp only [decide_eq_true_eq, decide_eq_false_iff_not, Bool.not_eq_true', Bool.not_eq_false', Int.not_lt, Int.not_le, ne_eq, Decidable.not_not] at hh61
     iterate 3 refine AX ?_
     exact ⟨rfl, zP rfl (by (refine Eq.symm ?_; first | exact decide_eq_decide.2 ⟨fun h => h.2.2, fun h => ⟨by omega, by omega, h⟩⟩ | exact decide_eq_false (fun h => by have h1 := h.1; have h2 := h.2.1; omega) | exact decide_eq_decide.2 ⟨fun h => h.2, fun h => ⟨by omega, h⟩⟩ | exact decide_eq_false (fun h => by have h1 := h.1; omega) | exact decide_eq_decide.2 ⟨fun h => h.2, fun h => ⟨hh29, h⟩⟩ | exact decide_eq_false (fun h => by rw [hh29] at h; cases h.1))) sX, rfl⟩
    have hh61 := hg61; try simp only [decide_eq_true_eq, decide_eq_false_iff_not, Bool.not_eq_true', Bool.not_eq_false', Int.not_lt, Int.not_le, ne_eq, Decidable.not_not] at hh61
    iterate 3 refine AX ?_
    exact ⟨rfl, zP rfl (by (refine Eq.symm ?_; first | exact decide_eq_decide.2 ⟨fun h => h.2.2, fun h => ⟨by omega, by omega, h⟩⟩ | exact decide_eq_false (fun h => by have h1 := h.1; have h2 := h.2.1; omega) | exact decide_eq_decide.2 ⟨fun h => h.2, fun h => ⟨by omega, h⟩⟩ | exact decide_eq_false (fun h => by have h1 := h.1; omega) | exact decide_eq_decide.2 ⟨fun h => h.2, fun h => ⟨hh29, h⟩⟩ | exact decide_eq_false (fun h => by rw [hh29] at h; cases h.1))) sX, rfl⟩
   have hh52 := hg52; try simp only [decide_eq_true_eq, decide_eq_false_iff_not, Bool.not_eq_true', Bool.not_eq_false', Int.not_lt, Int.not_le, ne_eq, Decidable.not_not] at hh52
   iterate 12 refine AX ?_
   exact ⟨rfl, zP rfl (by (refine Eq.symm ?_; first | exact decide_eq_decide.2 ⟨fun h => h.2.2, fun h => ⟨by omega, by omega, h⟩⟩ | exact decide_eq_false (fun h => by have h1 := h.1; have h2 := h.2.1; omega) | exact decide_eq_decide.2 ⟨fun h => h.2, fun h => ⟨by omega, h⟩⟩ | exact decide_eq_false (fun h => by have h1 := h.1; omega) | exact decide_eq_decide.2 ⟨fun h => h.2, fun h => ⟨hh29, h⟩⟩ | exact decide_eq_false (fun h => by rw [hh29] at h; cases h.1))) sX, rfl⟩
  refine AWP.sub [(63, _), (7, _), (1, _), (3, _), (6, _), (8, _)] sX ?_
  refine AWP.cx rfl (fun hc63 => ?_) (fun hc63 => ?_)
  ·iterate 10 refine AX ?_
   refine ⟨?_, rfl⟩
   rw [← abV]
   unfold aeU
   dsimp only
   first
   | (rw [if_neg (by rw [hall]; simp), if_pos (by omega), if_pos hc63]; rfl)
   | (rw [if_neg (by rw [hall]; simp), if_pos (by omega), if_neg hc63]; rfl)
   | (rw [if_neg (by rw [hall]; simp), if_neg (by omega), if_pos (by omega), if_pos hc77]; rfl)
   | (rw [if_neg (by rw [hall]; simp), if_neg (by omega), if_pos (by omega), if_neg hc77]; rfl)
   | (rw [if_neg (by rw [hall]; simp), if_neg (by omega), if_neg (by omega), if_pos (by omega), if_pos hc83]; rfl)
   | (rw [if_neg (by rw [hall]; simp), if_neg (by omega), if_neg (by omega), if_pos (by omega), if_neg hc83]; rfl)
   | (rw [if_neg (by rw [hall]; simp), if_neg (by omega), if_neg (by omega), if_neg (by omega), if_pos (by omega), if_pos hc88]; rfl)
   | (rw [if_neg (by rw [hall]; simp), if_neg (by omega), if_neg (by omega), if_neg (by omega), if_pos (by omega), if_neg hc88]; rfl)
   | (rw [if_neg (by rw [hall]; simp), if_neg (by omega), if_neg (by omega), if_neg (by omega), if_neg (by omega)]; rfl)
  iterate 11 refine AX ?_
  refine ⟨?_, rfl⟩
  rw [← abV]
  unfold aeU
  dsimp only
  first
  | (rw [if_neg (by rw [hall]; simp), if_pos (by omega), if_pos hc63]; rfl)
  | (rw [if_neg (by rw [hall]; simp), if_pos (by omega), if_neg hc63]; rfl)
  | (rw [if_neg (by rw [hall]; simp), if_neg (by omega), if_pos (by omega), if_pos hc77]; rfl)
  | (rw [if_neg (by rw [hall]; simp), if_neg (by omega), if_pos (by omega), if_neg hc77]; rfl)
  | (rw [if_neg (by rw [hall]; simp), if_neg (by omega), if_neg (by omega), if_pos (by omega), if_pos hc83]; rfl)
  | (rw [if_neg (by rw [hall]; simp), if_neg (by omega), if_neg (by omega), if_pos (by omega), if_neg hc83]; rfl)
  | (rw [if_neg (by rw [hall]; simp), if_neg (by omega), if_neg (by omega), if_neg (by omega), if_pos (by omega), if_pos hc88]; rfl)
  | (rw [if_neg (by rw [hall]; simp), if_neg (by omega), if_neg (by omega), if_neg (by omega), if_pos (by omega), if_neg hc88]; rfl)
  | (rw [if_neg (by rw [hall]; simp), if_neg (by omega), if_neg (by omega), if_neg (by omega), if_neg (by omega)]; rfl)
 iterate 3 refine AX ?_
 refine .cl rfl C53 (.cons (tm rfl) (.cons zG .nil)) (yA _ _ (by assumption) _ _) ?_
 iterate 4 refine AX ?_
 refine AWP.cx rfl (fun hc64 => ?_) (fun hc64 => ?_)
 ·refine AX ?_
  refine AWP.seqTo 77 (.bool (decide (zO l 2 + (zO l 3 + zO l 4 + zO l 5 + zO l 6) + zO l 9 = 0 ∧ (gr = false ∧ sc = 0)))) [7, 1, 3, 6, 8] ?_ ?_
  ·-- region 16
   iterate 5 refine AX ?_
   refine .cl rfl C53 (.cons (tm rfl) (.cons zG .nil)) (yA _ _ (by assumption) _ _) ?_
   iterate 3 refine AX ?_
   refine zB (t := 75) rfl (fun hg75 => ?_) (fun hg75 => ?_)
   ·have hh75 := hg75; try simp only [decide_eq_true_eq, decide_eq_false_iff_not, Bool.not_eq_true', Bool.not_eq_false', Int.not_lt, Int.not_le, ne_eq, Decidable.not_not] at hh75
    iterate 3 refine AX ?_
    exact ⟨rfl, zP rfl (by (refine Eq.symm ?_; first | exact decide_eq_decide.2 ⟨fun h => h.2.2, fun h => ⟨by omega, by omega, h⟩⟩ | exact decide_eq_false (fun h => by have h1 := h.1; have h2 := h.2.1; omega) | exact decide_eq_decide.2 ⟨fun h => h.2, fun h => ⟨by omega, h⟩⟩ | exact decide_eq_false (fun h => by have h1 := h.1; omega) | exact decide_eq_decide.2 ⟨fun h => h.2, fun h => ⟨hh29, h⟩⟩ | exact decide_eq_false (fun h => by rw [hh29] at h; cases h.1))) sX, rfl⟩
   have hh75 := hg75; try simp only [decide_eq_true_eq, decide_eq_false_iff_not, Bool.not_eq_true', Bool.not_eq_false', Int.not_lt, Int.not_le, ne_eq, Decidable.not_not] at hh75
   iterate 3 refine AX ?_
   exact ⟨rfl, zP rfl (by (refine Eq.symm ?_; first | exact decide_eq_decide.2 ⟨fun h => h.2.2, fun h => ⟨by omega, by omega, h⟩⟩ | exact decide_eq_false (fun h => by have h1 := h.1; have h2 := h.2.1; omega) | exact decide_eq_decide.2 ⟨fun h => h.2, fun h => ⟨by omega, h⟩⟩ | exact decide_eq_false (fun h => by have h1 := h.1; omega) | exact decide_eq_decide.2 ⟨fun h => h.2, fun h => ⟨hh29, h⟩⟩ | exact decide_eq_false (fun h => by rw [hh29] at h; cases h.1))) sX, rfl⟩
  refine AWP.sub [(77, _), (7, _), (1, _), (3, _), (6, _), (8, _)] sX ?_
  refine AWP.cx rfl (fun hc77 => ?_) (fun hc77 => ?_)
  ·iterate 10 refine AX ?_
   refine ⟨?_, rfl⟩
   rw [← abV]
   unfold aeU
   dsimp only
   first
   | (rw [if_neg (by rw [hall]; simp), if_pos (by omega), if_pos hc63]; rfl)
   | (rw [if_neg (by rw [hall]; simp), if_pos (by omega), if_neg hc63]; rfl)
   | (rw [if_neg (by rw [hall]; simp), if_neg (by omega), if_pos (by omega), if_pos hc77]; rfl)
   | (rw [if_neg (by rw [hall]; simp), if_neg (by omega), if_pos (by omega), if_neg hc77]; rfl)
   | (rw [if_neg (by rw [hall]; simp), if_neg (by omega), if_neg (by omega), if_pos (by omega), if_pos hc83]; rfl)
   | (rw [if_neg (by rw [hall]; simp), if_neg (by omega), if_neg (by omega), if_pos (by omega), if_neg hc83]; rfl)
   | (rw [if_neg (by rw [hall]; simp), if_neg (by omega), if_neg (by omega), if_neg (by omega), if_pos (by omega), if_pos hc88]; rfl)
   | (rw [if_neg (by rw [hall]; simp), if_neg (by omega), if_neg (by omega), if_neg (by omega), if_pos (by omega), if_neg hc88]; rfl)
   | (rw [if_neg (by rw [hall]; simp), if_neg (by omega), if_neg (by omega), if_neg (by omega), if_neg (by omega)]; rfl)
  iterate 11 refine AX ?_
  refine ⟨?_, rfl⟩
  rw [← abV]
  unfold aeU
  dsimp only
  first
  | (rw [if_neg (by rw [hall]; simp), if_pos (by omega), if_pos hc63]; rfl)
  | (rw [if_neg (by rw [hall]; simp), if_pos (by omega), if_neg hc63]; rfl)
  | (rw [if_neg (by rw [hall]; simp), if_neg (by omega), if_pos (by omega), if_pos hc77]; rfl)
  | (rw [if_neg (by rw [hall]; simp), if_neg (by omega), if_pos (by omega), if_neg hc77]; rfl)
  | (rw [if_neg (by rw [hall]; simp), if_neg (by omega), if_neg (by omega), if_pos (by omega), if_pos hc83]; rfl)
  | (rw [if_neg (by rw [hall]; simp), if_neg (by omega), if_neg (by omega), if_pos (by omega), if_neg hc83]; rfl)
  | (rw [if_neg (by rw [hall]; simp), if_neg (by omega), if_neg (by omega), if_neg (by omega), if_pos (by omega), if_pos hc88]; rfl)
  | (rw [if_neg (by rw [hall]; simp), if_neg (by omega), if_neg (by omega), if_neg (by omega), if_pos (by omega), if_neg hc88]; rfl)
  | (rw [if_neg (by rw [hall]; simp), if_neg (by omega), if_neg (by omega), if_neg (by omega), if_neg (by omega)]; rfl)
 iterate 9 refine AX ?_
 refine AWP.cx rfl (fun hc78 => ?_) (fun hc78 => ?_)
 ·iterate 6 refine AX ?_
  refine AWP.cx rfl (fun hc83 => ?_) (fun hc83 => ?_)
  ·iterate 10 refine AX ?_
   refine ⟨?_, rfl⟩
   rw [← abV]
   unfold aeU
   dsimp only
   first
   | (rw [if_neg (by rw [hall]; simp), if_pos (by omega), if_pos hc63]; rfl)
   | (rw [if_neg (by rw [hall]; simp), if_pos (by omega), if_neg hc63]; rfl)
   | (rw [if_neg (by rw [hall]; simp), if_neg (by omega), if_pos (by omega), if_pos hc77]; rfl)
   | (rw [if_neg (by rw [hall]; simp), if_neg (by omega), if_pos (by omega), if_neg hc77]; rfl)
   | (rw [if_neg (by rw [hall]; simp), if_neg (by omega), if_neg (by omega), if_pos (by omega), if_pos hc83]; rfl)
   | (rw [if_neg (by rw [hall]; simp), if_neg (by omega), if_neg (by omega), if_pos (by omega), if_neg hc83]; rfl)
   | (rw [if_neg (by rw [hall]; simp), if_neg (by omega), if_neg (by omega), if_neg (by omega), if_pos (by omega), if_pos hc88]; rfl)
   | (rw [if_neg (by rw [hall]; simp), if_neg (by omega), if_neg (by omega), if_neg (by omega), if_pos (by omega), if_neg hc88]; rfl)
   | (rw [if_neg (by rw [hall]; simp), if_neg (by omega), if_neg (by omega), if_neg (by omega), if_neg (by omega)]; rfl)
  iterate 11 refine AX ?_
  refine ⟨?_, rfl⟩
  rw [← abV]
  unfold aeU
  dsimp only
  first
  | (rw [if_neg (by rw [hall]; simp), if_pos (by omega), if_pos hc63]; rfl)
  | (rw [if_neg (by rw [hall]; simp), if_pos (by omega), if_neg hc63]; rfl)
  | (rw [if_neg (by rw [hall]; simp), if_neg (by omega), if_pos (by omega), if_pos hc77]; rfl)
  | (rw [if_neg (by rw [hall]; simp), if_neg (by omega), if_pos (by omega), if_neg hc77]; rfl)
  | (rw [if_neg (by rw [hall]; simp), if_neg (by omega), if_neg (by omega), if_pos (by omega), if_pos hc83]; rfl)
  | (rw [if_neg (by rw [hall]; simp), if_neg (by omega), if_neg (by omega), if_pos (by omega), if_neg hc83]; rfl)
  | (rw [if_neg (by rw [hall]; simp), if_neg (by omega), if_neg (by omega), if_neg (by omega), if_pos (by omega), if_pos hc88]; rfl)
  | (rw [if_neg (by rw [hall]; simp), if_neg (by omega), if_neg (by omega), if_neg (by omega), if_pos (by omega), if_neg hc88]; rfl)
  | (rw [if_neg (by rw [hall]; simp), if_neg (by omega), if_neg (by omega), if_neg (by omega), if_neg (by omega)]; rfl)
 iterate 3 refine AX ?_
 refine .cl rfl C53 (.cons (tm rfl) (.cons zG .nil)) (yA _ _ (by assumption) _ _) ?_
 iterate 4 refine AX ?_
 refine AWP.cx rfl (fun hc84 => ?_) (fun hc84 => ?_)
 ·iterate 6 refine AX ?_
  refine AWP.cx rfl (fun hc88 => ?_) (fun hc88 => ?_)
  ·iterate 3 refine AX ?_
   refine .cl rfl Tryz.call54 (evs1 rfl) (atS _ _ (by assumption) _) ?_
   iterate 8 refine AX ?_
   refine ⟨?_, rfl⟩
   rw [← abV]
   unfold aeU
   dsimp only
   first
   | (rw [if_neg (by rw [hall]; simp), if_pos (by omega), if_pos hc63]; rfl)
   | (rw [if_neg (by rw [hall]; simp), if_pos (by omega), if_neg hc63]; rfl)
   | (rw [if_neg (by rw [hall]; simp), if_neg (by omega), if_pos (by omega), if_pos hc77]; rfl)
   | (rw [if_neg (by rw [hall]; simp), if_neg (by omega), if_pos (by omega), if_neg hc77]; rfl)
   | (rw [if_neg (by rw [hall]; simp), if_neg (by omega), if_neg (by omega), if_pos (by omega), if_pos hc83]; rfl)
   | (rw [if_neg (by rw [hall]; simp), if_neg (by omega), if_neg (by omega), if_pos (by omega), if_neg hc83]; rfl)
   | (rw [if_neg (by rw [hall]; simp), if_neg (by omega), if_neg (by omega), if_neg (by omega), if_pos (by omega), if_pos hc88]; rfl)
   | (rw [if_neg (by rw [hall]; simp), if_neg (by omega), if_neg (by omega), if_neg (by omega), if_pos (by omega), if_neg hc88]; rfl)
   | (rw [if_neg (by rw [hall]; simp), if_neg (by omega), if_neg (by omega), if_neg (by omega), if_neg (by omega)]; rfl)
  iterate 11 refine AX ?_
  refine ⟨?_, rfl⟩
  rw [← abV]
  unfold aeU
  dsimp only
  first
  | (rw [if_neg (by rw [hall]; simp), if_pos (by omega), if_pos hc63]; rfl)
  | (rw [if_neg (by rw [hall]; simp), if_pos (by omega), if_neg hc63]; rfl)
  | (rw [if_neg (by rw [hall]; simp), if_neg (by omega), if_pos (by omega), if_pos hc77]; rfl)
  | (rw [if_neg (by rw [hall]; simp), if_neg (by omega), if_pos (by omega), if_neg hc77]; rfl)
  | (rw [if_neg (by rw [hall]; simp), if_neg (by omega), if_neg (by omega), if_pos (by omega), if_pos hc83]; rfl)
  | (rw [if_neg (by rw [hall]; simp), if_neg (by omega), if_neg (by omega), if_pos (by omega), if_neg hc83]; rfl)
  | (rw [if_neg (by rw [hall]; simp), if_neg (by omega), if_neg (by omega), if_neg (by omega), if_pos (by omega), if_pos hc88]; rfl)
  | (rw [if_neg (by rw [hall]; simp), if_neg (by omega), if_neg (by omega), if_neg (by omega), if_pos (by omega), if_neg hc88]; rfl)
  | (rw [if_neg (by rw [hall]; simp), if_neg (by omega), if_neg (by omega), if_neg (by omega), if_neg (by omega)]; rfl)
 iterate 6 refine AX ?_
 refine .cl rfl Tryz.call55 (evs1 rfl) (aqU _ _ _ _ (by assumption) _) ?_
 iterate 5 refine AX ?_
 refine ⟨?_, rfl⟩
 rw [← abV]
 unfold aeU
 dsimp only
 first
 | (rw [if_neg (by rw [hall]; simp), if_pos (by omega), if_pos hc63]; rfl)
 | (rw [if_neg (by rw [hall]; simp), if_pos (by omega), if_neg hc63]; rfl)
 | (rw [if_neg (by rw [hall]; simp), if_neg (by omega), if_pos (by omega), if_pos hc77]; rfl)
 | (rw [if_neg (by rw [hall]; simp), if_neg (by omega), if_pos (by omega), if_neg hc77]; rfl)
 | (rw [if_neg (by rw [hall]; simp), if_neg (by omega), if_neg (by omega), if_pos (by omega), if_pos hc83]; rfl)
 | (rw [if_neg (by rw [hall]; simp), if_neg (by omega), if_neg (by omega), if_pos (by omega), if_neg hc83]; rfl)
 | (rw [if_neg (by rw [hall]; simp), if_neg (by omega), if_neg (by omega), if_neg (by omega), if_pos (by omega), if_pos hc88]; rfl)
 | (rw [if_neg (by rw [hall]; simp), if_neg (by omega), if_neg (by omega), if_neg (by omega), if_pos (by omega), if_neg hc88]; rfl)
 | (rw [if_neg (by rw [hall]; simp), if_neg (by omega), if_neg (by omega), if_neg (by omega), if_neg (by omega)]; rfl)

def avW (p : List SecN) (tp : Tail) (H : Heap) : Nat → Env → Heap → Prop := fun k env H1 => ∃ i : Nat, i ≤ p.length ∧ (∀ q, q < i → asR p.length q (zX (agB p q)) = false) ∧ env = [(0, aeK p tp), (3, .int .i64 (i : Int))] ∧ H = H1 ∧ k = p.length - i

theorem aqP (p : List SecN) (tp : Tail) (hs : ∀ s, s ∈ p → s.items.length ≤ 1000) (hp : p.length ≤ 1000) (H : Heap) : ACall Tryz.prog 56 [aeK p tp] H (fun y H' => ∃ q : Int, y = .int .i64 q ∧ decide (q < 0) = !acL p ∧ H' = H) := by
 refine ACall.of_body Tryz.func56 rfl Tryz.ntmps56 Tryz.results56 rfl ?_
 iterate 12 refine AX ?_
 refine AWP.loopW (avW p tp H) (p.length) ⟨0, Nat.zero_le _, fun q h => by omega, rfl, rfl, rfl⟩ sX (hRa _) ?_
 rintro _ _ _ ⟨i, hi, hno, rfl, rfl, rfl⟩
 iterate 9 refine AX ?_
 refine AWP.cx rfl (fun hc8 => ?_) (fun hc8 => ?_)
 ·iterate 10 refine AX ?_
  refine .cl rfl Tryz.call16 (evs1 rfl) (afG (p[i]'(by omega)).items (p[i]'(by omega)).grouped (p[i]'(by omega)).scale _ (by have := hs _ (List.getElem_mem (show i < p.length by omega)); omega) _) ?_
  have hbi := biC p.length i (zX (agB p i))
  rw [show (SecN.mk (p[i]'(by omega)).items (p[i]'(by omega)).grouped (p[i]'(by omega)).scale) = agB p i from (adQ (by omega)).symm]
  generalize hkk : zX (agB p i) = k at *
  iterate 3 refine AX ?_
  refine AWP.seqTo 42 (.bool (decide (k = 0 ∨ (k = 6 ∧ i < 3 ∧ 1 < p.length) ∨ (i = 3 ∧ k ≠ 1 ∧ k ≠ 6)))) [0, 3] ?_ ?_
  ·-- region 5
   iterate 4 refine AX ?_
   refine zB (t := 18) rfl (fun hg18 => ?_) (fun hg18 => ?_)
   ·have hh18 := hg18; try simp only [decide_eq_true_eq, decide_eq_false_iff_not, Bool.not_eq_true', Bool.not_eq_false', Int.not_lt, Int.not_le, ne_eq, Decidable.not_not] at hh18
    iterate 25 refine AX ?_
    exact ⟨rfl, zP rfl (by (refine Eq.symm ?_; first | ((with_reducible refine decide_eq_decide.2 ?_); (first | omega | simp [*])) | ((with_reducible refine decide_eq_true ?_); (first | omega | simp [*])) | ((with_reducible refine decide_eq_false ?_); (first | omega | simp [*])))) sX, rfl⟩
   have hh18 := hg18; try simp only [decide_eq_true_eq, decide_eq_false_iff_not, Bool.not_eq_true', Bool.not_eq_false', Int.not_lt, Int.not_le, ne_eq, Decidable.not_not] at hh18
   iterate 3 refine AX ?_
   refine zB (t := 21) rfl (fun hg21 => ?_) (fun hg21 => ?_)
   ·have hh21 := hg21; try simp only [decide_eq_true_eq, decide_eq_false_iff_not, Bool.not_eq_true', Bool.not_eq_false', Int.not_lt, Int.not_le, ne_eq, Decidable.not_not] at hh21
    iterate 4 refine AX ?_
    refine zB (t := 25) rfl (fun hg25 => ?_) (fun hg25 => ?_)
    ·have hh25 := hg25; try simp only [decide_eq_true_eq, decide_eq_false_iff_not, Bool.not_eq_true', Bool.not_eq_false', Int.not_lt, Int.not_le, ne_eq, Decidable.not_not] at hh25
     iterate 6 refine AX ?_
     refine zB (t := 31) rfl (fun hg31 => ?_) (fun hg31 => ?_)
     ·have hh31 := hg31; try simp only [decide_eq_true_eq, decide_eq_false_iff_not, Bool.not_eq_true', Bool.not_eq_false', Int.not_lt, Int.not_le, ne_eq, Decidable.not_not] at hh31
      iterate 12 refine AX ?_
      exact ⟨rfl, zP rfl (by (refine Eq.symm ?_; first | ((with_reducible refine decide_eq_decide.2 ?_); (first | omega | simp [*])) | ((with_reducible refine decide_eq_true ?_); (first | omega | simp [*])) | ((with_reducible refine decide_eq_false ?_); (first | omega | simp [*])))) sX, rfl⟩
     have hh31 := hg31; try simp only [decide_eq_true_eq, decide_eq_false_iff_not, Bool.not_eq_true', Bool.not_eq_false', Int.not_lt, Int.not_le, ne_eq, Decidable.not_not] at hh31
     iterate 3 refine AX ?_
     refine zB (t := 34) rfl (fun hg34 => ?_) (fun hg34 => ?_)
     ·have hh34 := hg34; try simp only [decide_eq_true_eq, decide_eq_false_iff_not, Bool.not_eq_true', Bool.not_eq_false', Int.not_lt, Int.not_le, ne_eq, Decidable.not_not] at hh34
      iterate 4 refine AX ?_
      refine zB (t := 38) rfl (fun hg38 => ?_) (fun hg38 => ?_)
      ·have hh38 := hg38; try simp only [decide_eq_true_eq, decide_eq_false_iff_not, Bool.not_eq_true', Bool.not_eq_false', Int.not_lt, Int.not_le, ne_eq, Decidable.not_not] at hh38
       iterate 5 refine AX ?_
       exact ⟨rfl, zP rfl (by (refine Eq.symm ?_; first | ((with_reducible refine decide_eq_decide.2 ?_); (first | omega | simp [*])) | ((with_reducible refine decide_eq_true ?_); (first | omega | simp [*])) | ((with_reducible refine decide_eq_false ?_); (first | omega | simp [*])))) sX, rfl⟩
      have hh38 := hg38; try simp only [decide_eq_true_eq, decide_eq_false_iff_not, Bool.not_eq_true', Bool.not_eq_false', Int.not_lt, Int.not_le, ne_eq, Decidable.not_not] at hh38
      iterate 5 refine AX ?_
      exact ⟨rfl, zP rfl (by (refine Eq.symm ?_; first | ((with_reducible refine decide_eq_decide.2 ?_); (first | omega | simp [*])) | ((with_reducible refine decide_eq_true ?_); (first | omega | simp [*])) | ((with_reducible refine decide_eq_false ?_); (first | omega | simp [*])))) sX, rfl⟩
     have hh34 := hg34; try simp only [decide_eq_true_eq, decide_eq_false_iff_not, Bool.not_eq_true', Bool.not_eq_false', Int.not_lt, Int.not_le, ne_eq, Decidable.not_not] at hh34
     iterate 9 refine AX ?_
     exact ⟨rfl, zP rfl (by (refine Eq.symm ?_; first | ((with_reducible refine decide_eq_decide.2 ?_); (first | omega | simp [*])) | ((with_reducible refine decide_eq_true ?_); (first | omega | simp [*])) | ((with_reducible refine decide_eq_false ?_); (first | omega | simp [*])))) sX, rfl⟩
    have hh25 := hg25; try simp only [decide_eq_true_eq, decide_eq_false_iff_not, Bool.not_eq_true', Bool.not_eq_false', Int.not_lt, Int.not_le, ne_eq, Decidable.not_not] at hh25
    iterate 9 refine AX ?_
    refine zB (t := 34) rfl (fun hg34 => ?_) (fun hg34 => ?_)
    ·have hh34 := hg34; try simp only [decide_eq_true_eq, decide_eq_false_iff_not, Bool.not_eq_true', Bool.not_eq_false', Int.not_lt, Int.not_le, ne_eq, Decidable.not_not] at hh34
     iterate 4 refine AX ?_
     refine zB (t := 38) rfl (fun hg38 => ?_) (fun hg38 => ?_)
     ·have hh38 := hg38; try simp only [decide_eq_true_eq, decide_eq_false_iff_not, Bool.not_eq_true', Bool.not_eq_false', Int.not_lt, Int.not_le, ne_eq, Decidable.not_not] at hh38
      iterate 5 refine AX ?_
      exact ⟨rfl, zP rfl (by (refine Eq.symm ?_; first | ((with_reducible refine decide_eq_decide.2 ?_); (first | omega | simp [*])) | ((with_reducible refine decide_eq_true ?_); (first | omega | simp [*])) | ((with_reducible refine decide_eq_false ?_); (first | omega | simp [*])))) sX, rfl⟩
     have hh38 := hg38; try simp only [decide_eq_true_eq, decide_eq_false_iff_not, Bool.not_eq_true', Bool.not_eq_false', Int.not_lt, Int.not_le, ne_eq, Decidable.not_not] at hh38
     iterate 5 refine AX ?_
     exact ⟨rfl, zP rfl (by (refine Eq.symm ?_; first | ((with_reducible refine decide_eq_decide.2 ?_); (first | omega | simp [*])) | ((with_reducible refine decide_eq_true ?_); (first | omega | simp [*])) | ((with_reducible refine decide_eq_false ?_); (first | omega | simp [*])))) sX, rfl⟩
    have hh34 := hg34; try simp only [decide_eq_true_eq, decide_eq_false_iff_not, Bool.not_eq_true', Bool.not_eq_false', Int.not_lt, Int.not_le, ne_eq, Decidable.not_not] at hh34
    iterate 9 refine AX ?_
    exact ⟨rfl, zP rfl (by (refine Eq.symm ?_; first | ((with_reducible refine decide_eq_decide.2 ?_); (first | omega | simp [*])) | ((with_reducible refine decide_eq_true ?_); (first | omega | simp [*])) | ((with_reducible refine decide_eq_false ?_); (first | omega | simp [*])))) sX, rfl⟩
   have hh21 := hg21; try simp only [decide_eq_true_eq, decide_eq_false_iff_not, Bool.not_eq_true', Bool.not_eq_false', Int.not_lt, Int.not_le, ne_eq, Decidable.not_not] at hh21
   iterate 13 refine AX ?_
   refine zB (t := 34) rfl (fun hg34 => ?_) (fun hg34 => ?_)
   ·have hh34 := hg34; try simp only [decide_eq_true_eq, decide_eq_false_iff_not, Bool.not_eq_true', Bool.not_eq_false', Int.not_lt, Int.not_le, ne_eq, Decidable.not_not] at hh34
    iterate 4 refine AX ?_
    refine zB (t := 38) rfl (fun hg38 => ?_) (fun hg38 => ?_)
    ·have hh38 := hg38; try simp only [decide_eq_true_eq, decide_eq_false_iff_not, Bool.not_eq_true', Bool.not_eq_false', Int.not_lt, Int.not_le, ne_eq, Decidable.not_not] at hh38
     iterate 5 refine AX ?_
     exact ⟨rfl, zP rfl (by (refine Eq.symm ?_; first | ((with_reducible refine decide_eq_decide.2 ?_); (first | omega | simp [*])) | ((with_reducible refine decide_eq_true ?_); (first | omega | simp [*])) | ((with_reducible refine decide_eq_false ?_); (first | omega | simp [*])))) sX, rfl⟩
    have hh38 := hg38; try simp only [decide_eq_true_eq, decide_eq_false_iff_not, Bool.not_eq_true', Bool.not_eq_false', Int.not_lt, Int.not_le, ne_eq, Decidable.not_not] at hh38
    iterate 5 refine AX ?_
    exact ⟨rfl, zP rfl (by (refine Eq.symm ?_; first | ((with_reducible refine decide_eq_decide.2 ?_); (first | omega | simp [*])) | ((with_reducible refine decide_eq_true ?_); (first | omega | simp [*])) | ((with_reducible refine decide_eq_false ?_); (first | omega | simp [*])))) sX, rfl⟩
   have hh34 := hg34; try simp only [decide_eq_true_eq, decide_eq_false_iff_not, Bool.not_eq_true', Bool.not_eq_false', Int.not_lt, Int.not_le, ne_eq, Decidable.not_not] at hh34
   iterate 9 refine AX ?_
   exact ⟨rfl, zP rfl (by (refine Eq.symm ?_; first | ((with_reducible refine decide_eq_decide.2 ?_); (first | omega | simp [*])) | ((with_reducible refine decide_eq_true ?_); (first | omega | simp [*])) | ((with_reducible refine decide_eq_false ?_); (first | omega | simp [*])))) sX, rfl⟩
  refine AWP.sub [(42, _), (0, _), (3, _)] sX ?_
  refine AWP.cx rfl (fun hc42 => ?_) (fun hc42 => ?_)
  ·iterate 13 refine AX ?_
   refine ⟨_, rfl, ?_, rfl⟩
   have hw : acL p = true := by
    unfold acL; rw [List.any_eq_true]
    exact ⟨i, List.mem_range.2 (by omega), by rw [hkk, hbi]; exact decide_eq_true hc42⟩
   rw [hw]; exact decide_eq_false (by omega)
  iterate 9 refine AX ?_
  refine Round.mk (J := avW p tp H) ⟨i + 1, by omega, fun q hq => (Nat.lt_or_ge q i).elim (hno q) (fun h => by rw [show q = i by omega, hkk, hbi]; exact decide_eq_false hc42), rfl, rfl, rfl⟩ sX (hRa _) (by omega)
 iterate 12 refine AX ?_
 refine ⟨_, rfl, ?_, rfl⟩
 have hw : acL p = false := by
  unfold acL; rw [List.any_eq_false]
  intro q hq; rw [hno q (by have := List.mem_range.1 hq; omega)]; simp
 rw [hw]; rfl

theorem biX {p : List SecN} {i : Nat} (h : i < p.length) : p[i].items.length ≤ ajQ p := by
 have h1 := akG h; have h2 := baY p (i + 1); omega

def awA (p : List SecN) (tp : Tail) (H : Heap) : Nat → Env → Heap → Prop := fun k env H1 => ∃ i : Nat, i ≤ p.length ∧ ajQ (p.take i) ≤ 100 * i ∧ env = [(0, aeK p tp), (3, .int .i64 (ajQ (p.take i) : Int)), (4, .int .i64 (i : Int))] ∧ H = H1 ∧ k = p.length - i

theorem aeD (p : List SecN) (tp : Tail) (hs : ∀ s, s ∈ p → s.items.length ≤ 1000) (H : Heap) : ACall Tryz.prog 18 [aeK p tp] H (fun y H' => y = .bool (qL p) ∧ H' = H) := by
 refine ACall.of_body Tryz.func18 rfl Tryz.ntmps18 Tryz.results18 rfl ?_
 iterate 6 refine AX ?_
 refine AWP.seqTo 12 (.bool (decide (p.length < 1 ∨ 4 < p.length))) [0, 2] ?_ ?_
 ·-- region 1
  iterate 5 refine AX ?_
  refine zB (t := 8) rfl (fun hg8 => ?_) (fun hg8 => ?_)
  ·have hh8 := hg8; try simp only [decide_eq_true_eq, decide_eq_false_iff_not, Bool.not_eq_true', Bool.not_eq_false', Int.not_lt, Int.not_le, ne_eq, Decidable.not_not] at hh8
   iterate 5 refine AX ?_
   exact ⟨rfl, zP rfl (by (refine Eq.symm ?_; first | ((with_reducible refine decide_eq_decide.2 ?_); (first | omega | simp [*])) | ((with_reducible refine decide_eq_true ?_); (first | omega | simp [*])) | ((with_reducible refine decide_eq_false ?_); (first | omega | simp [*])))) sX, rfl⟩
  have hh8 := hg8; try simp only [decide_eq_true_eq, decide_eq_false_iff_not, Bool.not_eq_true', Bool.not_eq_false', Int.not_lt, Int.not_le, ne_eq, Decidable.not_not] at hh8
  iterate 5 refine AX ?_
  exact ⟨rfl, zP rfl (by (refine Eq.symm ?_; first | ((with_reducible refine decide_eq_decide.2 ?_); (first | omega | simp [*])) | ((with_reducible refine decide_eq_true ?_); (first | omega | simp [*])) | ((with_reducible refine decide_eq_false ?_); (first | omega | simp [*])))) sX, rfl⟩
 refine AWP.sub [(12, _), (0, _), (2, _)] sX ?_
 refine AWP.cx rfl (fun hc12 => ?_) (fun hc12 => ?_)
 ·iterate 8 refine AX ?_
  refine ⟨?_, rfl⟩
  unfold qL
  rw [decide_eq_false (by omega)]; rfl
 iterate 14 refine AX ?_
 refine AWP.loopW (awA p tp H) (p.length) ⟨0, Nat.zero_le _, by simp [ajQ], rfl, rfl, rfl⟩ sX (hRa _) ?_
 rintro _ _ _ ⟨i, hi, hsm, rfl, rfl, rfl⟩
 iterate 9 refine AX ?_
 refine AWP.cx rfl (fun hc16 => ?_) (fun hc16 => ?_)
 ·have hsi := hs _ (List.getElem_mem (show i < p.length by omega))
  have hnx := akG (show i < p.length by omega)
  have hxx : (p[((i : Nat) : Int).toNat]'(by omega)).items.length = (p[i]'(by omega)).items.length := rfl
  iterate 10 refine AX ?_
  refine .p rfl (zA U48 rfl Z46 (tm rfl)) ?_
  iterate 5 refine AX ?_
  refine AWP.cx rfl (fun hc25 => ?_) (fun hc25 => ?_)
  ·iterate 13 refine AX ?_
   have hge := biX (show i < p.length by omega)
   refine ⟨?_, rfl⟩
   unfold qL
   rw [decide_eq_false (by omega)]; rfl
  iterate 7 refine AX ?_
  refine .p rfl (zA U48 rfl Z46 (tm rfl)) ?_
  iterate 13 refine AX ?_
  refine Round.mk (J := awA p tp H) ⟨i + 1, by omega, by rw [hnx]; omega, rfl, rfl, rfl⟩ (zJ rfl (yD rfl (by rw [hnx]; rfl) (zJ rfl yF))) (hRa _) (by omega)
 have hil : i = p.length := by omega
 subst hil
 rw [List.take_length] at hsm
 rw [List.take_length]
 iterate 5 refine AX ?_
 refine AWP.seqTo 2 (.bool (decide (ajQ p ≤ 100) && !acL p)) [] ?_ ?_
 ·-- region 10
  iterate 4 refine AX ?_
  refine zB (t := 36) rfl (fun hg36 => ?_) (fun hg36 => ?_)
  ·have hh36 := hg36; try simp only [decide_eq_true_eq, decide_eq_false_iff_not, Bool.not_eq_true', Bool.not_eq_false', Int.not_lt, Int.not_le, ne_eq, Decidable.not_not] at hh36
   refine AX ?_
   refine .gs rfl rfl rfl (by assumption) (zE Tryz.call56 (evs1 rfl) (aqP _ _ hs (by omega) _)) ?_
   rintro _ _ ⟨q, rfl, hq, hH⟩
   obtain rfl := hH.symm
   iterate 4 refine AX ?_
   exact ⟨rfl, zP rfl (by (rw [hq, decide_eq_true (show ajQ p ≤ 100 by omega)]; rfl)) yF, rfl⟩
  have hh36 := hg36; try simp only [decide_eq_true_eq, decide_eq_false_iff_not, Bool.not_eq_true', Bool.not_eq_false', Int.not_lt, Int.not_le, ne_eq, Decidable.not_not] at hh36
  iterate 6 refine AX ?_
  exact ⟨rfl, zP rfl (by (rw [decide_eq_false (show ¬ ajQ p ≤ 100 by omega)]; rfl)) yF, rfl⟩
 refine AWP.sub [(2, _)] (zJ rfl yF) ?_
 iterate 2 refine AX ?_
 refine ⟨?_, rfl⟩
 unfold qL
 rw [show decide (1 ≤ p.length ∧ p.length ≤ 4 ∧ ajQ p ≤ 100) = decide (ajQ p ≤ 100) from decide_eq_decide.2 (by omega)]; rfl

end Go.Proofs.YteedncdcbgplfaaGreatDoor
