import Derived.Test.YteedncdcbgplfaaGreatDoorZa
import Derived.Test.YteedncdcbgplfaaGreatDoorJ3
set_option maxHeartbeats 1000000
namespace Go.Proofs.YteedncdcbgplfaaGreatDoor
open Go Go.RowKit
set_option maxRecDepth 100000

def adF (c : Nat) : Nat × Nat × Nat := if 194 ≤ c ∧ c < 224 then (2, c - 192, 128) else if 224 ≤ c ∧ c < 240 then (3, c - 224, 2048) else if 240 ≤ c ∧ c < 245 then (4, c - 240, 65536) else (0, 0, 0)
theorem boJ (c : Nat) : (adF c).1 ≤ 4 ∧ (adF c).2.1 < 64 := by
 unfold adF; repeat' split
 all_goals (simp only []; omega)
theorem bbP {s : List UInt8} (h : s ≠ []) (h1 : ¬ (s.getD 0 0).toNat < 128) : aqQ s = if (adF (s.getD 0 0).toNat).1 = 0 ∨ s.length < (adF (s.getD 0 0).toNat).1 then 0 else ajN s (adF (s.getD 0 0).toNat).1 (adF (s.getD 0 0).toNat).2.1 (adF (s.getD 0 0).toNat).2.2 := by
 unfold aqQ adF
 rw [if_neg h, if_neg h1]
 by_cases a : 194 ≤ (s.getD 0 0).toNat ∧ (s.getD 0 0).toNat < 224
 ·simp only [if_pos a]; unfold ajN; by_cases q : s.length < 2 <;> simp [q]
 by_cases b : 224 ≤ (s.getD 0 0).toNat ∧ (s.getD 0 0).toNat < 240
 ·simp only [if_neg a, if_pos b]; unfold ajN; by_cases q : s.length < 3 <;> simp [q]
 by_cases d : 240 ≤ (s.getD 0 0).toNat ∧ (s.getD 0 0).toNat < 245
 ·simp only [if_neg a, if_neg b, if_pos d]; unfold ajN; by_cases q : s.length < 4 <;> simp [q]
 simp only [if_neg a, if_neg b, if_neg d]; simp
theorem bmT {s : List UInt8} {v i : Nat} (hv : v < 64) (h1 : 1 ≤ i) (h4 : i ≤ 4) (h : arX s i) : ajP s v (i - 1) < 16777216 := by
 have c1 : 1 < i → (s.getD 1 0).toNat < 192 := fun q => (h 1 (Nat.le_refl _) q).2
 have c2 : 2 < i → (s.getD 2 0).toNat < 192 := fun q => (h 2 (by omega) q).2
 have c3 : 3 < i → (s.getD 3 0).toNat < 192 := fun q => (h 3 (by omega) q).2
 rcases (by omega : i = 1 ∨ i = 2 ∨ i = 3 ∨ i = 4) with rfl | rfl | rfl | rfl
 ·show v < _; omega
 ·show 64 * v + ((s.getD 1 0).toNat - 128) < _; omega
 ·show 64 * (64 * v + ((s.getD 1 0).toNat - 128)) + ((s.getD 2 0).toNat - 128) < _; omega
 show 64 * (64 * (64 * v + ((s.getD 1 0).toNat - 128)) + ((s.getD 2 0).toNat - 128)) + ((s.getD 3 0).toNat - 128) < _; omega
theorem bmO (s : List UInt8) : arX s 1 := fun i a b => by omega
theorem bpC (s : List UInt8) (v : Nat) {i : Nat} (h : 1 ≤ i) : ajP s v (i + 1 - 1) = 64 * ajP s v (i - 1) + ((s.getD i 0).toNat - 128) := by
 obtain ⟨j, rfl⟩ : ∃ j, i = j + 1 := ⟨i - 1, by omega⟩
 rfl

def bjB (s : List UInt8) (n v low : Nat) (H : Heap) : Nat → Env → Heap → Prop := fun k env H1 => ∃ i : Nat, 1 ≤ i ∧ (i = 1 ∨ i ≤ n) ∧ arX s i ∧ env = [(0, .str s), (4, .int .i64 (n : Int)), (5, .int .i64 (low : Int)), (6, .int .i64 (ajP s v (i - 1) : Int)), (7, .int .i64 (i : Int))] ∧ H = H1 ∧ k = n - i

set_option maxRecDepth 100000 in
theorem atG (s : List UInt8) (H : Heap) : ACall Tryz.prog 129 [.str s] H (fun y H' => y = .int .i64 (aqQ s : Int) ∧ H' = H) := by
 refine ACall.of_body Tryz.func129 rfl Tryz.ntmps129 Tryz.results129 rfl ?_
 iterate 12 refine AX ?_
 refine AWP.cx rfl (fun hc9 => ?_) (fun hc9 => ?_)
 ·iterate 8 refine AX ?_
  refine ⟨?_, rfl⟩
  rw [show s = [] from hc9]; rfl
 have hs0 : s ≠ [] := hc9
 have hsp := List.length_pos_iff.2 hs0
 have hcb : (s.getD (Int.toNat 0) 0).toNat < 256 := (s.getD 0 0).toNat_lt
 have hrc : ¬ (s.getD (Int.toNat 0) 0).toNat < 128 → aqQ s = if (adF (s.getD (Int.toNat 0) 0).toNat).1 = 0 ∨ s.length < (adF (s.getD (Int.toNat 0) 0).toNat).1 then 0 else ajN s (adF (s.getD (Int.toNat 0) 0).toNat).1 (adF (s.getD (Int.toNat 0) 0).toNat).2.1 (adF (s.getD (Int.toNat 0) 0).toNat).2.2 := bbP hs0
 have hr1 : (s.getD (Int.toNat 0) 0).toNat < 128 → aqQ s = 1 := fun h => by unfold aqQ; rw [if_neg hs0]; exact if_pos h
 iterate 11 refine AX ?_
 generalize hcc : (s.getD (Int.toNat 0) 0).toNat = c at *
 iterate 14 refine AX ?_
 refine AWP.meet (fun env H2 => ¬ c < 128 ∧ env = [(0, .str s), (4, .int .i64 ((adF c).1 : Int)), (5, .int .i64 ((adF c).2.2 : Int)), (6, .int .i64 ((adF c).2.1 : Int))] ∧ H = H2) ?_ ?_
 ·iterate 8 refine AX ?_
  refine AWP.cx rfl (fun hc13 => ?_) (fun hc13 => ?_)
  ·iterate 9 refine AX ?_
   refine ⟨?_, rfl⟩
   rw [hr1 (by omega)]; rfl
  refine AWP.seqTo 16 (.bool (decide (194 ≤ c ∧ c < 224))) [0, 2, 3, 4, 5, 6] ?_ ?_
  ·-- region 9
   iterate 4 refine AX ?_
   refine zB (t := 19) rfl (fun hg19 => ?_) (fun hg19 => ?_)
   ·have hh19 := hg19; try simp only [decide_eq_true_eq, decide_eq_false_iff_not, Bool.not_eq_true', Bool.not_eq_false', Int.not_lt, Int.not_le, ne_eq, Decidable.not_not] at hh19
    iterate 5 refine AX ?_
    exact ⟨rfl, zP rfl (by (refine Eq.symm ?_; first | ((with_reducible refine decide_eq_decide.2 ?_); (first | omega | simp [*])) | ((with_reducible refine decide_eq_true ?_); (first | omega | simp [*])) | ((with_reducible refine decide_eq_false ?_); (first | omega | simp [*])))) sX, rfl⟩
   have hh19 := hg19; try simp only [decide_eq_true_eq, decide_eq_false_iff_not, Bool.not_eq_true', Bool.not_eq_false', Int.not_lt, Int.not_le, ne_eq, Decidable.not_not] at hh19
   iterate 5 refine AX ?_
   exact ⟨rfl, zP rfl (by (refine Eq.symm ?_; first | ((with_reducible refine decide_eq_decide.2 ?_); (first | omega | simp [*])) | ((with_reducible refine decide_eq_true ?_); (first | omega | simp [*])) | ((with_reducible refine decide_eq_false ?_); (first | omega | simp [*])))) sX, rfl⟩
  refine AWP.sub [(16, _), (0, _), (2, _), (3, _), (4, _), (5, _), (6, _)] sX ?_
  refine AWP.cx rfl (fun hc16 => ?_) (fun hc16 => ?_)
  ·iterate 17 refine AX ?_
   refine Meets.mk (M := fun env H2 => ¬ c < 128 ∧ env = [(0, .str s), (4, .int .i64 ((adF c).1 : Int)), (5, .int .i64 ((adF c).2.2 : Int)), (6, .int .i64 ((adF c).2.1 : Int))] ∧ H = H2) ⟨by omega, rfl, rfl⟩ (zJ rfl (yD rfl (by unfold adF; first | (rw [if_pos (by assumption)]; first | rfl | (congr 1; dsimp only; omega)) | (rw [if_neg (by assumption), if_pos (by assumption)]; first | rfl | (congr 1; dsimp only; omega)) | (rw [if_neg (by assumption), if_neg (by assumption), if_pos (by assumption)]; first | rfl | (congr 1; dsimp only; omega)) | (rw [if_neg (by assumption), if_neg (by assumption), if_neg (by assumption)]; rfl)) (yD rfl (by unfold adF; first | (rw [if_pos (by assumption)]; first | rfl | (congr 1; dsimp only; omega)) | (rw [if_neg (by assumption), if_pos (by assumption)]; first | rfl | (congr 1; dsimp only; omega)) | (rw [if_neg (by assumption), if_neg (by assumption), if_pos (by assumption)]; first | rfl | (congr 1; dsimp only; omega)) | (rw [if_neg (by assumption), if_neg (by assumption), if_neg (by assumption)]; rfl)) (yD rfl (by unfold adF; first | (rw [if_pos (by assumption)]; first | rfl | (congr 1; dsimp only; omega)) | (rw [if_neg (by assumption), if_pos (by assumption)]; first | rfl | (congr 1; dsimp only; omega)) | (rw [if_neg (by assumption), if_neg (by assumption), if_pos (by assumption)]; first | rfl | (congr 1; dsimp only; omega)) | (rw [if_neg (by assumption), if_neg (by assumption), if_neg (by assumption)]; rfl)) yF)))) (hRa _)
  refine AWP.seqTo 25 (.bool (decide (224 ≤ c ∧ c < 240))) [0, 2, 3, 4, 5, 6] ?_ ?_
  ·-- region 13
   iterate 4 refine AX ?_
   refine zB (t := 28) rfl (fun hg28 => ?_) (fun hg28 => ?_)
   ·have hh28 := hg28; try simp only [decide_eq_true_eq, decide_eq_false_iff_not, Bool.not_eq_true', Bool.not_eq_false', Int.not_lt, Int.not_le, ne_eq, Decidable.not_not] at hh28
    iterate 5 refine AX ?_
    exact ⟨rfl, zP rfl (by (refine Eq.symm ?_; first | ((with_reducible refine decide_eq_decide.2 ?_); (first | omega | simp [*])) | ((with_reducible refine decide_eq_true ?_); (first | omega | simp [*])) | ((with_reducible refine decide_eq_false ?_); (first | omega | simp [*])))) sX, rfl⟩
   have hh28 := hg28; try simp only [decide_eq_true_eq, decide_eq_false_iff_not, Bool.not_eq_true', Bool.not_eq_false', Int.not_lt, Int.not_le, ne_eq, Decidable.not_not] at hh28
   iterate 5 refine AX ?_
   exact ⟨rfl, zP rfl (by (refine Eq.symm ?_; first | ((with_reducible refine decide_eq_decide.2 ?_); (first | omega | simp [*])) | ((with_reducible refine decide_eq_true ?_); (first | omega | simp [*])) | ((with_reducible refine decide_eq_false ?_); (first | omega | simp [*])))) sX, rfl⟩
  refine AWP.sub [(25, _), (0, _), (2, _), (3, _), (4, _), (5, _), (6, _)] sX ?_
  refine AWP.cx rfl (fun hc25 => ?_) (fun hc25 => ?_)
  ·iterate 17 refine AX ?_
   refine Meets.mk (M := fun env H2 => ¬ c < 128 ∧ env = [(0, .str s), (4, .int .i64 ((adF c).1 : Int)), (5, .int .i64 ((adF c).2.2 : Int)), (6, .int .i64 ((adF c).2.1 : Int))] ∧ H = H2) ⟨by omega, rfl, rfl⟩ (zJ rfl (yD rfl (by unfold adF; first | (rw [if_pos (by assumption)]; first | rfl | (congr 1; dsimp only; omega)) | (rw [if_neg (by assumption), if_pos (by assumption)]; first | rfl | (congr 1; dsimp only; omega)) | (rw [if_neg (by assumption), if_neg (by assumption), if_pos (by assumption)]; first | rfl | (congr 1; dsimp only; omega)) | (rw [if_neg (by assumption), if_neg (by assumption), if_neg (by assumption)]; rfl)) (yD rfl (by unfold adF; first | (rw [if_pos (by assumption)]; first | rfl | (congr 1; dsimp only; omega)) | (rw [if_neg (by assumption), if_pos (by assumption)]; first | rfl | (congr 1; dsimp only; omega)) | (rw [if_neg (by assumption), if_neg (by assumption), if_pos (by assumption)]; first | rfl | (congr 1; dsimp only; omega)) | (rw [if_neg (by assumption), if_neg (by assumption), if_neg (by assumption)]; rfl)) (yD rfl (by unfold adF; first | (rw [if_pos (by assumption)]; first | rfl | (congr 1; dsimp only; omega)) | (rw [if_neg (by assumption), if_pos (by assumption)]; first | rfl | (congr 1; dsimp only; omega)) | (rw [if_neg (by assumption), if_neg (by assumption), if_pos (by assumption)]; first | rfl | (congr 1; dsimp only; omega)) | (rw [if_neg (by assumption), if_neg (by assumption), if_neg (by assumption)]; rfl)) yF)))) (hRa _)
  refine AWP.seqTo 34 (.bool (decide (240 ≤ c ∧ c < 245))) [0, 2, 3, 4, 5, 6] ?_ ?_
  ·-- region 17
   iterate 4 refine AX ?_
   refine zB (t := 37) rfl (fun hg37 => ?_) (fun hg37 => ?_)
   ·have hh37 := hg37; try simp only [decide_eq_true_eq, decide_eq_false_iff_not, Bool.not_eq_true', Bool.not_eq_false', Int.not_lt, Int.not_le, ne_eq, Decidable.not_not] at hh37
    iterate 5 refine AX ?_
    exact ⟨rfl, zP rfl (by (refine Eq.symm ?_; first | ((with_reducible refine decide_eq_decide.2 ?_); (first | omega | simp [*])) | ((with_reducible refine decide_eq_true ?_); (first | omega | simp [*])) | ((with_reducible refine decide_eq_false ?_); (first | omega | simp [*])))) sX, rfl⟩
   have hh37 := hg37; try simp only [decide_eq_true_eq, decide_eq_false_iff_not, Bool.not_eq_true', Bool.not_eq_false', Int.not_lt, Int.not_le, ne_eq, Decidable.not_not] at hh37
   iterate 5 refine AX ?_
   exact ⟨rfl, zP rfl (by (refine Eq.symm ?_; first | ((with_reducible refine decide_eq_decide.2 ?_); (first | omega | simp [*])) | ((with_reducible refine decide_eq_true ?_); (first | omega | simp [*])) | ((with_reducible refine decide_eq_false ?_); (first | omega | simp [*])))) sX, rfl⟩
  refine AWP.sub [(34, _), (0, _), (2, _), (3, _), (4, _), (5, _), (6, _)] sX ?_
  refine AWP.cx rfl (fun hc34 => ?_) (fun hc34 => ?_)
  ·iterate 17 refine AX ?_
   refine Meets.mk (M := fun env H2 => ¬ c < 128 ∧ env = [(0, .str s), (4, .int .i64 ((adF c).1 : Int)), (5, .int .i64 ((adF c).2.2 : Int)), (6, .int .i64 ((adF c).2.1 : Int))] ∧ H = H2) ⟨by omega, rfl, rfl⟩ (zJ rfl (yD rfl (by unfold adF; first | (rw [if_pos (by assumption)]; first | rfl | (congr 1; dsimp only; omega)) | (rw [if_neg (by assumption), if_pos (by assumption)]; first | rfl | (congr 1; dsimp only; omega)) | (rw [if_neg (by assumption), if_neg (by assumption), if_pos (by assumption)]; first | rfl | (congr 1; dsimp only; omega)) | (rw [if_neg (by assumption), if_neg (by assumption), if_neg (by assumption)]; rfl)) (yD rfl (by unfold adF; first | (rw [if_pos (by assumption)]; first | rfl | (congr 1; dsimp only; omega)) | (rw [if_neg (by assumption), if_pos (by assumption)]; first | rfl | (congr 1; dsimp only; omega)) | (rw [if_neg (by assumption), if_neg (by assumption), if_pos (by assumption)]; first | rfl | (congr 1; dsimp only; omega)) | (rw [if_neg (by assumption), if_neg (by assumption), if_neg (by assumption)]; rfl)) (yD rfl (by unfold adF; first | (rw [if_pos (by assumption)]; first | rfl | (congr 1; dsimp only; omega)) | (rw [if_neg (by assumption), if_pos (by assumption)]; first | rfl | (congr 1; dsimp only; omega)) | (rw [if_neg (by assumption), if_neg (by assumption), if_pos (by assumption)]; first | rfl | (congr 1; dsimp only; omega)) | (rw [if_neg (by assumption), if_neg (by assumption), if_neg (by assumption)]; rfl)) yF)))) (hRa _)
  iterate 3 refine AX ?_
  refine Meets.mk (M := fun env H2 => ¬ c < 128 ∧ env = [(0, .str s), (4, .int .i64 ((adF c).1 : Int)), (5, .int .i64 ((adF c).2.2 : Int)), (6, .int .i64 ((adF c).2.1 : Int))] ∧ H = H2) ⟨by omega, rfl, rfl⟩ (zJ rfl (yD rfl (by unfold adF; first | (rw [if_pos (by assumption)]; first | rfl | (congr 1; dsimp only; omega)) | (rw [if_neg (by assumption), if_pos (by assumption)]; first | rfl | (congr 1; dsimp only; omega)) | (rw [if_neg (by assumption), if_neg (by assumption), if_pos (by assumption)]; first | rfl | (congr 1; dsimp only; omega)) | (rw [if_neg (by assumption), if_neg (by assumption), if_neg (by assumption)]; rfl)) (yD rfl (by unfold adF; first | (rw [if_pos (by assumption)]; first | rfl | (congr 1; dsimp only; omega)) | (rw [if_neg (by assumption), if_pos (by assumption)]; first | rfl | (congr 1; dsimp only; omega)) | (rw [if_neg (by assumption), if_neg (by assumption), if_pos (by assumption)]; first | rfl | (congr 1; dsimp only; omega)) | (rw [if_neg (by assumption), if_neg (by assumption), if_neg (by assumption)]; rfl)) (yD rfl (by unfold adF; first | (rw [if_pos (by assumption)]; first | rfl | (congr 1; dsimp only; omega)) | (rw [if_neg (by assumption), if_pos (by assumption)]; first | rfl | (congr 1; dsimp only; omega)) | (rw [if_neg (by assumption), if_neg (by assumption), if_pos (by assumption)]; first | rfl | (congr 1; dsimp only; omega)) | (rw [if_neg (by assumption), if_neg (by assumption), if_neg (by assumption)]; rfl)) yF)))) (hRa _)
 rintro _ _ ⟨hc128, rfl, rfl⟩
 have hrc := hrc hc128
 obtain ⟨hcl1, hcl2⟩ := boJ c
 generalize (adF c).1 = n at *
 generalize (adF c).2.1 = v at *
 generalize (adF c).2.2 = low at *
 refine AX ?_
 refine AWP.seqTo 50 (.bool (decide (n = 0 ∨ s.length < n))) [0, 4, 5, 6] ?_ ?_
 ·-- region 21
  iterate 4 refine AX ?_
  refine zB (t := 45) rfl (fun hg45 => ?_) (fun hg45 => ?_)
  ·have hh45 := hg45; try simp only [decide_eq_true_eq, decide_eq_false_iff_not, Bool.not_eq_true', Bool.not_eq_false', Int.not_lt, Int.not_le, ne_eq, Decidable.not_not] at hh45
   iterate 6 refine AX ?_
   exact ⟨rfl, zP rfl (by (refine Eq.symm ?_; first | ((with_reducible refine decide_eq_decide.2 ?_); (first | omega | simp [*])) | ((with_reducible refine decide_eq_true ?_); (first | omega | simp [*])) | ((with_reducible refine decide_eq_false ?_); (first | omega | simp [*])))) sX, rfl⟩
  have hh45 := hg45; try simp only [decide_eq_true_eq, decide_eq_false_iff_not, Bool.not_eq_true', Bool.not_eq_false', Int.not_lt, Int.not_le, ne_eq, Decidable.not_not] at hh45
  iterate 6 refine AX ?_
  exact ⟨rfl, zP rfl (by (refine Eq.symm ?_; first | ((with_reducible refine decide_eq_decide.2 ?_); (first | omega | simp [*])) | ((with_reducible refine decide_eq_true ?_); (first | omega | simp [*])) | ((with_reducible refine decide_eq_false ?_); (first | omega | simp [*])))) sX, rfl⟩
 refine AWP.sub [(50, _), (0, _), (4, _), (5, _), (6, _)] sX ?_
 refine AWP.cx rfl (fun hc50 => ?_) (fun hc50 => ?_)
 ·iterate 8 refine AX ?_
  refine ⟨?_, rfl⟩
  rw [hrc, if_pos hc50]; rfl
 iterate 9 refine AX ?_
 refine AWP.loopW (bjB s n v low H) (n - 1) ⟨1, Nat.le_refl _, .inl rfl, bmO s, rfl, rfl, rfl⟩ sX (hRa _) ?_
 rintro _ _ _ ⟨i, hi1, hin, hct, rfl, rfl, rfl⟩
 iterate 8 refine AX ?_
 refine AWP.cx rfl (fun hc53 => ?_) (fun hc53 => ?_)
 ·have hal := bmT hcl2 hi1 (by omega) hct
  iterate 5 refine AX ?_
  refine AWP.seqTo 65 (.bool (decide (¬ (128 ≤ (s.getD ((i : Nat) : Int).toNat 0).toNat ∧ (s.getD ((i : Nat) : Int).toNat 0).toNat < 192)))) [0, 4, 5, 6, 7] ?_ ?_
  ·-- region 26
   iterate 6 refine AX ?_
   refine zB (t := 60) rfl (fun hg60 => ?_) (fun hg60 => ?_)
   ·have hh60 := hg60; try simp only [decide_eq_true_eq, decide_eq_false_iff_not, Bool.not_eq_true', Bool.not_eq_false', Int.not_lt, Int.not_le, ne_eq, Decidable.not_not] at hh60
    iterate 6 refine AX ?_
    exact ⟨rfl, zP rfl (by (refine Eq.symm ?_; first | ((with_reducible refine decide_eq_decide.2 ?_); (first | omega | simp [*])) | ((with_reducible refine decide_eq_true ?_); (first | omega | simp [*])) | ((with_reducible refine decide_eq_false ?_); (first | omega | simp [*])))) sX, rfl⟩
   have hh60 := hg60; try simp only [decide_eq_true_eq, decide_eq_false_iff_not, Bool.not_eq_true', Bool.not_eq_false', Int.not_lt, Int.not_le, ne_eq, Decidable.not_not] at hh60
   iterate 6 refine AX ?_
   exact ⟨rfl, zP rfl (by (refine Eq.symm ?_; first | ((with_reducible refine decide_eq_decide.2 ?_); (first | omega | simp [*])) | ((with_reducible refine decide_eq_true ?_); (first | omega | simp [*])) | ((with_reducible refine decide_eq_false ?_); (first | omega | simp [*])))) sX, rfl⟩
  refine AWP.sub [(65, _), (0, _), (4, _), (5, _), (6, _), (7, _)] sX ?_
  refine AWP.cx rfl (fun hc65 => ?_) (fun hc65 => ?_)
  ·iterate 13 refine AX ?_
   refine ⟨?_, rfl⟩
   rw [hrc, if_neg hc50]
   unfold ajN
   rw [if_neg (by omega), if_pos (fun h => hc65 (h i hi1 (by omega)))]; rfl
  iterate 21 refine AX ?_
  have hbb : (s.getD ((i : Nat) : Int).toNat 0).toNat < 256 := (s.getD i 0).toNat_lt
  have has : ajP s v (i + 1 - 1) = 64 * ajP s v (i - 1) + ((s.getD ((i : Nat) : Int).toNat 0).toNat - 128) := bpC s v hi1
  refine Round.mk (J := bjB s n v low H) ⟨i + 1, by omega, .inr (by omega), (auU s i hi1).2 ⟨hct, by show 128 ≤ (s.getD ((i : Nat) : Int).toNat 0).toNat ∧ (s.getD ((i : Nat) : Int).toNat 0).toNat < 192; omega⟩, rfl, rfl, rfl⟩ (zJ rfl (zJ rfl (zJ rfl (yD rfl (by rw [has]; congr 1; omega) (zJ rfl yF))))) (hRa _) (by omega)
 have hin2 : i = n := by omega
 subst hin2
 generalize ha : ajP s v (i - 1) = a at *
 iterate 6 refine AX ?_
 refine AWP.seqTo 88 (.bool (decide (a < low ∨ 1114111 < a ∨ 55296 ≤ a ∧ a < 57344))) [4] ?_ ?_
 ·-- region 29
  iterate 5 refine AX ?_
  refine zB (t := 77) rfl (fun hg77 => ?_) (fun hg77 => ?_)
  ·have hh77 := hg77; try simp only [decide_eq_true_eq, decide_eq_false_iff_not, Bool.not_eq_true', Bool.not_eq_false', Int.not_lt, Int.not_le, ne_eq, Decidable.not_not] at hh77
   iterate 12 refine AX ?_
   exact ⟨rfl, zP rfl (by (refine Eq.symm ?_; first | ((with_reducible refine decide_eq_decide.2 ?_); (first | omega | simp [*])) | ((with_reducible refine decide_eq_true ?_); (first | omega | simp [*])) | ((with_reducible refine decide_eq_false ?_); (first | omega | simp [*])))) (zJ rfl yF), rfl⟩
  have hh77 := hg77; try simp only [decide_eq_true_eq, decide_eq_false_iff_not, Bool.not_eq_true', Bool.not_eq_false', Int.not_lt, Int.not_le, ne_eq, Decidable.not_not] at hh77
  iterate 4 refine AX ?_
  refine zB (t := 81) rfl (fun hg81 => ?_) (fun hg81 => ?_)
  ·have hh81 := hg81; try simp only [decide_eq_true_eq, decide_eq_false_iff_not, Bool.not_eq_true', Bool.not_eq_false', Int.not_lt, Int.not_le, ne_eq, Decidable.not_not] at hh81
   iterate 8 refine AX ?_
   exact ⟨rfl, zP rfl (by (refine Eq.symm ?_; first | ((with_reducible refine decide_eq_decide.2 ?_); (first | omega | simp [*])) | ((with_reducible refine decide_eq_true ?_); (first | omega | simp [*])) | ((with_reducible refine decide_eq_false ?_); (first | omega | simp [*])))) (zJ rfl yF), rfl⟩
  have hh81 := hg81; try simp only [decide_eq_true_eq, decide_eq_false_iff_not, Bool.not_eq_true', Bool.not_eq_false', Int.not_lt, Int.not_le, ne_eq, Decidable.not_not] at hh81
  iterate 3 refine AX ?_
  refine zB (t := 84) rfl (fun hg84 => ?_) (fun hg84 => ?_)
  ·have hh84 := hg84; try simp only [decide_eq_true_eq, decide_eq_false_iff_not, Bool.not_eq_true', Bool.not_eq_false', Int.not_lt, Int.not_le, ne_eq, Decidable.not_not] at hh84
   iterate 5 refine AX ?_
   exact ⟨rfl, zP rfl (by (refine Eq.symm ?_; first | ((with_reducible refine decide_eq_decide.2 ?_); (first | omega | simp [*])) | ((with_reducible refine decide_eq_true ?_); (first | omega | simp [*])) | ((with_reducible refine decide_eq_false ?_); (first | omega | simp [*])))) (zJ rfl yF), rfl⟩
  have hh84 := hg84; try simp only [decide_eq_true_eq, decide_eq_false_iff_not, Bool.not_eq_true', Bool.not_eq_false', Int.not_lt, Int.not_le, ne_eq, Decidable.not_not] at hh84
  iterate 5 refine AX ?_
  exact ⟨rfl, zP rfl (by (refine Eq.symm ?_; first | ((with_reducible refine decide_eq_decide.2 ?_); (first | omega | simp [*])) | ((with_reducible refine decide_eq_true ?_); (first | omega | simp [*])) | ((with_reducible refine decide_eq_false ?_); (first | omega | simp [*])))) (zJ rfl yF), rfl⟩
 refine AWP.sub [(88, _), (4, _)] sX ?_
 refine AWP.cx rfl (fun hc88 => ?_) (fun hc88 => ?_)
 ·iterate 8 refine AX ?_
  refine ⟨?_, rfl⟩
  rw [hrc, if_neg hc50]
  unfold ajN
  rw [if_neg (by omega), if_neg (fun h => h hct), ha, if_pos hc88]; rfl
 iterate 10 refine AX ?_
 refine ⟨?_, rfl⟩
 rw [hrc, if_neg hc50]
 unfold ajN
 rw [if_neg (by omega), if_neg (fun h => h hct), ha, if_neg hc88]; rfl

theorem atP (x : ItN) (H : Heap) : ACall Tryz.prog 52 [x.av] H (fun y H' => y = .bool (aeA x) ∧ H' = H) := by
 refine ACall.of_body Tryz.func52 rfl Tryz.ntmps52 Tryz.results52 rfl ?_
 iterate 9 refine AX ?_
 refine .p rfl (zA U78 rfl Z3 (tm rfl)) ?_
 iterate 10 refine AX ?_
 refine AWP.cx rfl (fun hc6 => ?_) (fun hc6 => ?_)
 ·iterate 2 refine AX ?_
  refine .p rfl (zA U78 rfl Z9 (tm rfl)) ?_
  refine AX ?_
  refine .cl rfl Tryz.call129 (evs1 rfl) (atG _ _) ?_
  rw [bkV]
  iterate 3 refine AX ?_
  refine AWP.seqTo 2 (.bool (decide (0 < ajM x.text ∧ ajM x.text = x.text.length))) [1, 5] ?_ ?_
  ·-- region 4
   iterate 4 refine AX ?_
   refine zB (t := 13) rfl (fun hg13 => ?_) (fun hg13 => ?_)
   ·have hh13 := hg13; try simp only [decide_eq_true_eq, decide_eq_false_iff_not, Bool.not_eq_true', Bool.not_eq_false', Int.not_lt, Int.not_le, ne_eq, Decidable.not_not] at hh13
    refine AX ?_
    refine .gp rfl rfl rfl (by assumption) (zA U78 rfl Z9 (tm rfl)) ?_
    iterate 6 refine AX ?_
    exact ⟨rfl, zP rfl (by (refine Eq.symm ?_; first | ((with_reducible refine decide_eq_decide.2 ?_); (first | omega | simp [*])) | ((with_reducible refine decide_eq_true ?_); (first | omega | simp [*])) | ((with_reducible refine decide_eq_false ?_); (first | omega | simp [*])))) sX, rfl⟩
   have hh13 := hg13; try simp only [decide_eq_true_eq, decide_eq_false_iff_not, Bool.not_eq_true', Bool.not_eq_false', Int.not_lt, Int.not_le, ne_eq, Decidable.not_not] at hh13
   iterate 8 refine AX ?_
   exact ⟨rfl, zP rfl (by (refine Eq.symm ?_; first | ((with_reducible refine decide_eq_decide.2 ?_); (first | omega | simp [*])) | ((with_reducible refine decide_eq_true ?_); (first | omega | simp [*])) | ((with_reducible refine decide_eq_false ?_); (first | omega | simp [*])))) sX, rfl⟩
  refine AWP.sub [(2, _), (1, _), (5, _)] sX ?_
  iterate 4 refine AX ?_
  refine ⟨?_, rfl⟩
  unfold aeA
  rw [if_pos hc6]
  rfl
 iterate 6 refine AX ?_
 refine AWP.cx rfl (fun hc20 => ?_) (fun hc20 => ?_)
 ·refine AWP.seqTo 2 (.bool (decide (x.text = [48] ∨ x.text = [35] ∨ x.text = [63]))) [1, 5] ?_ ?_
  ·-- region 6
   refine AX ?_
   refine .p rfl (zA U78 rfl Z9 (tm rfl)) ?_
   iterate 3 refine AX ?_
   refine zB (t := 25) rfl (fun hg25 => ?_) (fun hg25 => ?_)
   ·have hh25 := hg25; try simp only [decide_eq_true_eq, decide_eq_false_iff_not, Bool.not_eq_true', Bool.not_eq_false', Int.not_lt, Int.not_le, ne_eq, Decidable.not_not] at hh25
    iterate 11 refine AX ?_
    exact ⟨rfl, zP rfl (by (refine Eq.symm ?_; first | ((with_reducible refine decide_eq_decide.2 ?_); (first | omega | simp [*])) | ((with_reducible refine decide_eq_true ?_); (first | omega | simp [*])) | ((with_reducible refine decide_eq_false ?_); (first | omega | simp [*])))) sX, rfl⟩
   have hh25 := hg25; try simp only [decide_eq_true_eq, decide_eq_false_iff_not, Bool.not_eq_true', Bool.not_eq_false', Int.not_lt, Int.not_le, ne_eq, Decidable.not_not] at hh25
   refine .gp rfl rfl rfl (by assumption) (zA U78 rfl Z9 (tm rfl)) ?_
   iterate 4 refine AX ?_
   refine zB (t := 30) rfl (fun hg30 => ?_) (fun hg30 => ?_)
   ·have hh30 := hg30; try simp only [decide_eq_true_eq, decide_eq_false_iff_not, Bool.not_eq_true', Bool.not_eq_false', Int.not_lt, Int.not_le, ne_eq, Decidable.not_not] at hh30
    iterate 6 refine AX ?_
    exact ⟨rfl, zP rfl (by (refine Eq.symm ?_; first | ((with_reducible refine decide_eq_decide.2 ?_); (first | omega | simp [*])) | ((with_reducible refine decide_eq_true ?_); (first | omega | simp [*])) | ((with_reducible refine decide_eq_false ?_); (first | omega | simp [*])))) sX, rfl⟩
   have hh30 := hg30; try simp only [decide_eq_true_eq, decide_eq_false_iff_not, Bool.not_eq_true', Bool.not_eq_false', Int.not_lt, Int.not_le, ne_eq, Decidable.not_not] at hh30
   refine .gp rfl rfl rfl (by assumption) (zA U78 rfl Z9 (tm rfl)) ?_
   iterate 5 refine AX ?_
   exact ⟨rfl, zP rfl (by (refine Eq.symm ?_; first | ((with_reducible refine decide_eq_decide.2 ?_); (first | omega | simp [*])) | ((with_reducible refine decide_eq_true ?_); (first | omega | simp [*])) | ((with_reducible refine decide_eq_false ?_); (first | omega | simp [*])))) sX, rfl⟩
  refine AWP.sub [(2, _), (1, _), (5, _)] sX ?_
  iterate 4 refine AX ?_
  refine ⟨?_, rfl⟩
  unfold aeA
  rw [if_neg hc6, if_pos hc20]
  rfl
 iterate 6 refine AX ?_
 refine AWP.cx rfl (fun hc35 => ?_) (fun hc35 => ?_)
 ·refine AWP.seqTo 2 (.bool (decide (x.text = [43] ∨ x.text = [45]))) [1] ?_ ?_
  ·-- region 8
   refine AX ?_
   refine .p rfl (zA U78 rfl Z9 (tm rfl)) ?_
   iterate 3 refine AX ?_
   refine zB (t := 40) rfl (fun hg40 => ?_) (fun hg40 => ?_)
   ·have hh40 := hg40; try simp only [decide_eq_true_eq, decide_eq_false_iff_not, Bool.not_eq_true', Bool.not_eq_false', Int.not_lt, Int.not_le, ne_eq, Decidable.not_not] at hh40
    iterate 6 refine AX ?_
    exact ⟨rfl, zP rfl (by (refine Eq.symm ?_; first | ((with_reducible refine decide_eq_decide.2 ?_); (first | omega | simp [*])) | ((with_reducible refine decide_eq_true ?_); (first | omega | simp [*])) | ((with_reducible refine decide_eq_false ?_); (first | omega | simp [*])))) (zJ rfl yF), rfl⟩
   have hh40 := hg40; try simp only [decide_eq_true_eq, decide_eq_false_iff_not, Bool.not_eq_true', Bool.not_eq_false', Int.not_lt, Int.not_le, ne_eq, Decidable.not_not] at hh40
   refine .gp rfl rfl rfl (by assumption) (zA U78 rfl Z9 (tm rfl)) ?_
   iterate 5 refine AX ?_
   exact ⟨rfl, zP rfl (by (refine Eq.symm ?_; first | ((with_reducible refine decide_eq_decide.2 ?_); (first | omega | simp [*])) | ((with_reducible refine decide_eq_true ?_); (first | omega | simp [*])) | ((with_reducible refine decide_eq_false ?_); (first | omega | simp [*])))) (zJ rfl yF), rfl⟩
  refine AWP.sub [(2, _), (1, _)] sX ?_
  iterate 4 refine AX ?_
  refine ⟨?_, rfl⟩
  unfold aeA
  rw [if_neg hc6, if_neg hc20, if_pos hc35]
  rfl
 iterate 3 refine AX ?_
 refine AWP.seqTo 2 (.bool (decide (1 ≤ x.kind ∧ x.kind ≤ 9 ∧ x.text = []))) [] ?_ ?_
 ·-- region 9
  refine AX ?_
  refine .p rfl (zA U78 rfl Z3 (tm rfl)) ?_
  iterate 3 refine AX ?_
  refine zB (t := 48) rfl (fun hg48 => ?_) (fun hg48 => ?_)
  ·have hh48 := hg48; try simp only [decide_eq_true_eq, decide_eq_false_iff_not, Bool.not_eq_true', Bool.not_eq_false', Int.not_lt, Int.not_le, ne_eq, Decidable.not_not] at hh48
   refine .gp rfl rfl rfl (by assumption) (zA U78 rfl Z3 (tm rfl)) ?_
   iterate 4 refine AX ?_
   refine zB (t := 53) rfl (fun hg53 => ?_) (fun hg53 => ?_)
   ·have hh53 := hg53; try simp only [decide_eq_true_eq, decide_eq_false_iff_not, Bool.not_eq_true', Bool.not_eq_false', Int.not_lt, Int.not_le, ne_eq, Decidable.not_not] at hh53
    refine .gp rfl rfl rfl (by assumption) (zA U78 rfl Z9 (tm rfl)) ?_
    iterate 5 refine AX ?_
    exact ⟨rfl, zP rfl (by (refine Eq.symm ?_; first | ((with_reducible refine decide_eq_decide.2 ?_); (first | omega | simp [*])) | ((with_reducible refine decide_eq_true ?_); (first | omega | simp [*])) | ((with_reducible refine decide_eq_false ?_); (first | omega | simp [*])))) yF, rfl⟩
   have hh53 := hg53; try simp only [decide_eq_true_eq, decide_eq_false_iff_not, Bool.not_eq_true', Bool.not_eq_false', Int.not_lt, Int.not_le, ne_eq, Decidable.not_not] at hh53
   iterate 6 refine AX ?_
   exact ⟨rfl, zP rfl (by (refine Eq.symm ?_; first | ((with_reducible refine decide_eq_decide.2 ?_); (first | omega | simp [*])) | ((with_reducible refine decide_eq_true ?_); (first | omega | simp [*])) | ((with_reducible refine decide_eq_false ?_); (first | omega | simp [*])))) yF, rfl⟩
  have hh48 := hg48; try simp only [decide_eq_true_eq, decide_eq_false_iff_not, Bool.not_eq_true', Bool.not_eq_false', Int.not_lt, Int.not_le, ne_eq, Decidable.not_not] at hh48
  iterate 11 refine AX ?_
  exact ⟨rfl, zP rfl (by (refine Eq.symm ?_; first | ((with_reducible refine decide_eq_decide.2 ?_); (first | omega | simp [*])) | ((with_reducible refine decide_eq_true ?_); (first | omega | simp [*])) | ((with_reducible refine decide_eq_false ?_); (first | omega | simp [*])))) yF, rfl⟩
 refine AWP.sub [(2, _)] (zJ rfl yF) ?_
 iterate 2 refine AX ?_
 refine ⟨?_, rfl⟩
 unfold aeA
 rw [if_neg hc6, if_neg hc20, if_neg hc35]
 rfl

def aoT (l : List ItN) (tl : Tail) (c : Int) (H : Heap) : Nat → Env → Heap → Prop := fun k env H1 => ∃ i : Nat, i ≤ l.length ∧ env = [(0, itS l tl), (1, .int .i64 c), (5, .int .i64 (zO (l.take i) c : Int)), (6, .int .i64 (i : Int))] ∧ H = H1 ∧ k = l.length - i

theorem yA (l : List ItN) (tl : Tail) (hl : l.length ≤ 100000) (c : Int) (H : Heap) : ACall Tryz.prog 53 [itS l tl, .int .i64 c] H (fun y H' => y = .int .i64 (zO l c : Int) ∧ H' = H) := by
 have hcl := fun i => qE (l.take i) c
 have htl := fun i => List.length_take (i := i) (l := l)
 refine ACall.of_body Tryz.func53 rfl Tryz.ntmps53 Tryz.results53 rfl ?_
 iterate 17 refine AX ?_
 refine AWP.loopW (aoT l tl c H) (l.length) ⟨0, Nat.zero_le _, rfl, rfl, rfl⟩ sX (hRa _) ?_
 rintro _ _ _ ⟨i, hi, rfl, rfl, rfl⟩
 iterate 9 refine AX ?_
 refine AWP.cx rfl (fun hc10 => ?_) (fun hc10 => ?_)
 ·have hci := hcl i
  rw [htl] at hci
  iterate 9 refine AX ?_
  refine .p rfl (zA U78 rfl Z3 (tm rfl)) ?_
  iterate 5 refine AX ?_
  refine AWP.cx rfl (fun hc19 => ?_) (fun hc19 => ?_)
  ·iterate 13 refine AX ?_
   have hnx := ajZ (k := c) (show i < l.length by omega)
   refine Round.mk (J := aoT l tl c H) ⟨i + 1, by omega, rfl, rfl, rfl⟩ (zJ rfl (zJ rfl (yD rfl (by rw [hnx]; first | (rw [if_pos (by exact hc19)]; rfl) | (rw [if_neg (by exact hc19)]; rfl)) (zJ rfl yF)))) (hRa _) (by omega)
  iterate 9 refine AX ?_
  have hnx := ajZ (k := c) (show i < l.length by omega)
  refine Round.mk (J := aoT l tl c H) ⟨i + 1, by omega, rfl, rfl, rfl⟩ (zJ rfl (zJ rfl (yD rfl (by rw [hnx]; first | (rw [if_pos (by exact hc19)]; rfl) | (rw [if_neg (by exact hc19)]; rfl)) (zJ rfl yF)))) (hRa _) (by omega)
 iterate 13 refine AX ?_
 have hil : i = l.length := by omega
 subst hil
 rw [List.take_length]
 exact ⟨rfl, rfl⟩

def bnH (l : List ItN) (tl : Tail) (c : Int) (H : Heap) : Nat → Env → Heap → Prop := fun k env H1 => ∃ i : Nat, i ≤ l.length ∧ (∀ q x, q < i → l[q]? = some x → (fun x : ItN => decide (x.kind = c)) x = false) ∧ env = [(0, itS l tl), (1, .int .i64 c), (5, .int .i64 (i : Int))] ∧ H = H1 ∧ k = l.length - i

theorem acS (l : List ItN) (tl : Tail) (hl : l.length ≤ 100000) (c : Int) (H : Heap) : ACall Tryz.prog 130 [itS l tl, .int .i64 c] H (fun y H' => y = .int .i64 (atK l c : Int) ∧ H' = H) := by
 refine ACall.of_body Tryz.func130 rfl Tryz.ntmps130 Tryz.results130 rfl ?_
 iterate 12 refine AX ?_
 refine AWP.loopW (bnH l tl c H) (l.length) ⟨0, Nat.zero_le _, fun q x h => by omega, rfl, rfl, rfl⟩ sX (hRa _) ?_
 rintro _ _ _ ⟨i, hi, hno, rfl, rfl, rfl⟩
 iterate 9 refine AX ?_
 refine AWP.cx rfl (fun hc9 => ?_) (fun hc9 => ?_)
 ·iterate 9 refine AX ?_
  refine .p rfl (zA U78 rfl Z3 (tm rfl)) ?_
  iterate 5 refine AX ?_
  refine AWP.cx rfl (fun hc18 => ?_) (fun hc18 => ?_)
  ·iterate 13 refine AX ?_
   have hh := apM hno (by omega) (decide_eq_true hc18)
   refine ⟨?_, rfl⟩
   unfold atK
   rw [hh]; rfl
  iterate 9 refine AX ?_
  refine Round.mk (J := bnH l tl c H) ⟨i + 1, by omega, alV hno (by omega) (decide_eq_false hc18), rfl, rfl, rfl⟩ sX (hRa _) (by omega)
 iterate 14 refine AX ?_
 have hh := alU hno (by omega)
 refine ⟨?_, rfl⟩
 unfold atK
 rw [hh]; rfl

theorem anG (l : List ItN) (tl : Tail) (hl : l.length ≤ 100000) (H : Heap) : ACall Tryz.prog 118 [itS l tl] H (fun y H' => y = .int .i64 (aiU l : Int) ∧ H' = H) := by
 refine ACall.of_body Tryz.func118 rfl Tryz.ntmps118 Tryz.results118 rfl ?_
 iterate 8 refine AX ?_
 refine .cl rfl C130 (.cons (tm rfl) (.cons zG .nil)) (acS _ _ (by assumption) _ _) ?_
 refine AX ?_
 refine .cl rfl C130 (.cons (tm rfl) (.cons zG .nil)) (acS _ _ (by assumption) _ _) ?_
 refine AX ?_
 refine .cl rfl C130 (.cons (tm rfl) (.cons zG .nil)) (acS _ _ (by assumption) _ _) ?_
 iterate 7 refine AX ?_
 refine ⟨?_, rfl⟩
 unfold aiU
 show AV.int .i64 _ = AV.int .i64 _
 congr 1
 unfold arR; repeat' split
 all_goals omega

end Go.Proofs.YteedncdcbgplfaaGreatDoor
