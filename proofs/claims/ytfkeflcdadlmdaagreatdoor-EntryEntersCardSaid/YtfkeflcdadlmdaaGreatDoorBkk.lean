import Derived.Test.YtfkeflcdadlmdaaGreatDoorYd
import Derived.Test.YtfkeflcdadlmdaaGreatDoorSsk
import Derived.Test.YtfkeflcdadlmdaaGreatDoorU3
import Derived.Test.YtfkeflcdadlmdaaGreatDoorLgk
namespace Go.Proofs.YtfkeflcdadlmdaaGreatDoor
open Go Go.RowKit

def lEn : Loc := ⟨[101, 110], [46], [44], [44], [45], [37], [36], true, false, 3⟩
def lSv : Loc := ⟨[115, 118], [44], [194, 160], [59], [226, 136, 146], [37], [107, 114], false, true, 3⟩
def lDe : Loc := ⟨[100, 101], [44], [46], [59], [45], [37], [226, 130, 172], false, true, 3⟩

set_option maxRecDepth 100000 in
theorem acQ (x : Nat) (k p : Int) (H : Heap) : ACall Tryz.prog 23 [.int .u64 (x : Int), .int .i64 k, .int .i64 p] H (fun y H' => y = .agg (EntN.mk x k p false false).cs ∧ H' = H) := by
 refine ACall.of_body Tryz.func23 rfl Tryz.ntmps23 Tryz.results23 rfl ?_
 iterate 2 refine AX ?_
 refine .s rfl (zL Tryz.zeroValue32 (zr32)) ?_
 rintro _ _ ⟨b6, hb6, rfl, hH⟩
 obtain rfl := hH.symm
 iterate 7 refine AX ?_
 refine .p rfl (zU [(0, 1), (1, 1), (2, 1), (3, 1), (4, 1)] Tryz.underlying32 Tryz.zeroValue32 (zr32) rfl (pl32 _ Tryz.underlying32) (.cons (tm rfl) (.inl rfl) (.cons (tm rfl) (.inl rfl) (.cons (tm rfl) (.inl rfl) .nil))) rfl) ?_
 refine .e0 (zB Tryz.sizeOf32 (tm rfl) (tm rfl) rfl rfl (.inr ⟨_, rfl⟩) (Heap.objs_set_same _ _ _) (Nat.le_of_ble_eq_true rfl)) ?_
 try first | rw [Heap.set_set] | rw [Heap.set_under (by assumption)]
 iterate 2 refine AX ?_
 refine AWP.frz (t := 6) rfl (hb6) ?_
 refine AX ?_
 refine Ret.go (.cons (.cellI _ _ _ _ rfl Tryz.isAgg32 Tryz.sizeOf32 rfl) .nil) _ (Heap.le.refl _) ?_
 exact ⟨rfl, rfl⟩

def goodT : List (List UInt8) := [[45, 53], [40, 53, 41], [53, 48, 37], [36, 51], [51, 32, 36], [46, 53], [53, 46]]
def goodE : List EntN := [⟨13840687554816376832, 0, 0, false, false⟩, ⟨13840687554816376832, 0, 0, false, false⟩, ⟨4602678819172646912, 1, 0, false, false⟩, ⟨4613937818241073152, 2, 0, false, false⟩, ⟨4613937818241073152, 2, 0, false, false⟩, ⟨4602678819172646912, 0, 1, false, false⟩, ⟨4617315517961601024, 0, 0, false, false⟩]
def badT : List (List UInt8) := [[], [45], [49, 32, 50], [45, 45, 49], [40, 45, 49, 41], [36, 53, 37], [49, 50, 44, 51, 52], [49, 101]]
def shownX : List Nat := [4653144203864309760, 4599075939470750516, 4831355200913801216, 4816244402031689728, 4862596447618666292, 4532020583610935537, 4518273666404680566, 9223372036854775808]
set_option maxRecDepth 100000 in
theorem good_eq : goodT.map (fun s => acE lEn (qM zQ s)) = goodE.map (fun o => (o, (0 : Int))) := by kernel_rfl
theorem good_all (i : Nat) (h1 : i < goodT.length) (h2 : i < goodE.length) : acE lEn (qM zQ goodT[i]) = (goodE[i], 0) := by
 have h := List.getElem_of_eq good_eq (i := i) (by simpa using h1)
 rw [List.getElem_map] at h
 rw [List.getElem_map] at h
 exact h
set_option maxRecDepth 100000 in
theorem bad_eq : badT.map (fun s => acE lEn (qM zQ s)) = badT.map (fun _ => (EntN.zero, (3 : Int))) := by kernel_rfl
theorem bad_all (i : Nat) (h1 : i < badT.length) : acE lEn (qM zQ badT[i]) = (EntN.zero, 3) := by
 have h := List.getElem_of_eq bad_eq (i := i) (by simpa using h1)
 rw [List.getElem_map] at h
 rw [List.getElem_map] at h
 exact h
def shownT : List (List UInt8) := [[49, 50, 51, 52, 44, 53], [48, 44, 51], [49, 69, 43, 49, 53], [49, 48, 48, 48, 48, 48, 48, 48, 48, 48, 48, 48, 48, 48, 48], [49, 44, 50, 51, 52, 53, 54, 55, 56, 57, 48, 49, 50, 51, 52, 54, 69, 43, 49, 55], [48, 44, 48, 48, 48, 48, 49], [49, 44, 50, 69, 45, 48, 54], [45, 48]]
set_option maxRecDepth 100000 in
theorem shown_eq : shownX.map (fun x => genD lDe (bcE x 15)) = shownT := by kernel_rfl
theorem bgB (i : Nat) (h1 : i < shownX.length) (h2 : i < shownT.length) : genD lDe (bcE shownX[i] 15) = shownT[i] := by
 have h := List.getElem_of_eq shown_eq (i := i) (by simpa using h1)
 rw [List.getElem_map] at h
 exact h
theorem bgA : genD lDe (bcE 9218868437227405312 15) = [] := by kernel_rfl
theorem shown_64 : ∀ x ∈ shownX, x < 18446744073709551616 := by decide

def good_J (H : Heap) (r1 r2 : Nat) : Nat → Env → Heap → Prop := fun k env H1 => ∃ (i : Nat) (f : Nat → List AV), i ≤ 7 ∧ ROK f ∧ env = [(3, erA lEn r1), (4, erA lSv r2), (5, .iptr (pL lDe (szA lDe)).cells), (7, .slice 1 (goodT.map .str) .full), (8, .slice 5 (goodE.map fun o : EntN => AV.agg o.cs) .full), (9, .int .i64 (i : Int))] ∧ H1 = (H.set r1 (.box 129 (abE f))).set r2 (.box 129 (abE akP)) ∧ k = 7 - i

def bad_J (H : Heap) (r1 r2 : Nat) (f2 : Nat → List AV) : Nat → Env → Heap → Prop := fun k env H1 => ∃ (i : Nat) (f : Nat → List AV), i ≤ 8 ∧ ROK f ∧ env = [(3, erA lEn r1), (5, .iptr (pL lDe (szA lDe)).cells), (18, .slice 1 (badT.map .str) .full), (19, .int .i64 (i : Int))] ∧ H1 = (H.set r1 (.box 129 (abE f))).set r2 (.box 129 (abE f2)) ∧ k = 8 - i

def told_J (H : Heap) : Nat → Env → Heap → Prop := fun k env H1 => ∃ i : Nat, i ≤ 8 ∧ env = [(5, .iptr (pL lDe (szA lDe)).cells), (23, .int .i64 2), (24, .slice 1 (shownX.map fun x : Nat => AV.int .u64 (x : Int)) .full), (25, .slice 1 (shownT.map .str) .full), (26, .int .i64 (i : Int))] ∧ H1 = H ∧ k = 8 - i

theorem mEn : lEn ∈ locs := by simp [locs, lEn]
theorem mSv : lSv ∈ locs := by simp [locs, lSv]
theorem mDe : lDe ∈ locs := by simp [locs, lDe]
def svT : List UInt8 := [226, 136, 146, 49, 194, 160, 50, 51, 52, 44, 53, 32, 107, 114]
set_option maxRecDepth 100000 in
theorem sv_ok : acE lSv (qM zQ svT) = (⟨13876516240719085568, 2, 1, true, false⟩, 0) := by kernel_rfl
theorem good_len : ∀ l ∈ goodT, l.length ≤ 1000 := by decide
theorem bad_len : ∀ l ∈ badT, l.length ≤ 1000 := by decide

set_option maxRecDepth 100000 in
theorem bdV (H : Heap) : ACall Tryz.prog 8 [] H (fun y H' => y = .bool true ∧ H' = H) := by
 refine ACall.of_body Tryz.func8 rfl Tryz.ntmps8 Tryz.results8 rfl ?_
 iterate 7 refine AX ?_
 refine .cl rfl Tryz.call22 (.cons (zR rfl) .nil) (agT (l := lEn) mEn _) ?_
 iterate 3 refine AX ?_
 refine .s rfl (zL Tryz.zeroValue25 (zr25)) ?_
 rintro _ _ ⟨b1, hb1, rfl, hH⟩
 obtain rfl := hH.symm
 refine .e0 (zB Tryz.sizeOf25 (tm rfl) (tm rfl) rfl rfl (.inr ⟨_, rfl⟩) (Heap.objs_set_same _ _ _) (Nat.le_of_ble_eq_true rfl)) ?_
 try first | rw [Heap.set_set] | rw [Heap.set_under (by assumption)]
 iterate 5 refine AX ?_
 refine .e rfl (yJ Tryz.isAgg25 Tryz.sizeOf25 (tm rfl) (Heap.objs_set_same _ _ _) (Nat.le_of_ble_eq_true rfl)) (.s rfl (zH Tryz.call10 (evs1 rfl) (ajT lEn _)) ?_)
 rintro _ _ ⟨r1, hr1, rfl, rfl⟩
 have hn1r := Heap.fresh_ne hr1
 iterate 5 refine AX ?_
 refine .cl rfl Tryz.call22 (.cons (zR rfl) .nil) (agT (l := lSv) mSv _) ?_
 iterate 3 refine AX ?_
 refine .e0 (zB Tryz.sizeOf25 (tm rfl) (tm rfl) rfl rfl (.inr ⟨_, rfl⟩) ((Heap.objs_set_ne _ _ (by assumption)).trans (Heap.objs_set_same _ _ _)) (Nat.le_of_ble_eq_true rfl)) ?_
 rw [Heap.set_under hn1r, Heap.set_comm hn1r]
 rw [Heap.objs_set_ne _ _ (Ne.symm hn1r)] at hr1
 replace hb1 : (H.set r1 (.box 129 (abE akP))).objs b1 = none := (Heap.objs_set_ne _ _ hn1r).trans hb1
 iterate 2 refine AX ?_
 refine AWP.frz (t := 1) rfl (hb1) ?_
 iterate 3 refine AX ?_
 refine .s rfl (zH Tryz.call10 (evs1 rfl) (ajT lSv _)) ?_
 rintro _ _ ⟨r2, hr2, rfl, rfl⟩
 iterate 4 refine AX ?_
 have hn12 := Heap.fresh_ne hr2
 have hr2b := hr2
 rw [Heap.objs_set_ne _ _ (Ne.symm hn12)] at hr2b
 refine AX ?_
 refine .cl rfl Tryz.call22 (.cons (zR rfl) .nil) (agT (l := lDe) mDe _) ?_
 iterate 3 refine AX ?_
 refine .s rfl (zL Tryz.zeroValue25 (zr25)) ?_
 rintro _ _ ⟨b5, hb5, rfl, hH⟩
 obtain rfl := hH.symm
 refine .e0 (zB Tryz.sizeOf25 (tm rfl) (tm rfl) rfl rfl (.inr ⟨_, rfl⟩) (Heap.objs_set_same _ _ _) (Nat.le_of_ble_eq_true rfl)) ?_
 try first | rw [Heap.set_set] | rw [Heap.set_under (by assumption)]
 iterate 3 refine AX ?_
 refine AWP.frz (t := 5) rfl (hb5) ?_
 iterate 4 refine AX ?_
 refine .p rfl (apJ Tryz.underlying35 (tm rfl) aiW) ?_
 iterate 2 refine AX ?_
 refine .gp rfl rfl rfl (by rfl) (apJ Tryz.underlying35 (tm rfl) aiW) ?_
 iterate 3 refine AX ?_
 refine AWP.cond_false (tm rfl) (by rfl) ?_
 iterate 4 refine AX ?_
 refine .e rfl (afA Tryz.underlying58 Tryz.sizeOf9 Tryz.zeroValue9 rfl rfl rfl (.cons (zR rfl) (.inl rfl) (.cons (zR rfl) (.inl rfl) (.cons (zR rfl) (.inl rfl) (.cons (zR rfl) (.inl rfl) (.cons (zR rfl) (.inl rfl) (.cons (zR rfl) (.inl rfl) (.cons (zR rfl) (.inl rfl) .nil))))))) (yS ⟨rfl, rfl⟩ (yS ⟨rfl, rfl⟩ (yS ⟨rfl, rfl⟩ (yS ⟨rfl, rfl⟩ (yS ⟨rfl, rfl⟩ (yS ⟨rfl, rfl⟩ (yS ⟨rfl, rfl⟩ amA)))))))) ?_
 iterate 5 refine AX ?_
 refine .cl rfl Tryz.call23 (.cons zF (.cons zF (.cons zF .nil))) (acQ 13840687554816376832 0 0 _) (.cl rfl Tryz.call23 (.cons zF (.cons zF (.cons zF .nil))) (acQ 13840687554816376832 0 0 _) (.cl rfl Tryz.call23 (.cons zF (.cons zF (.cons zF .nil))) (acQ 4602678819172646912 1 0 _) (.cl rfl Tryz.call23 (.cons zF (.cons zF (.cons zF .nil))) (acQ 4613937818241073152 2 0 _) (.cl rfl Tryz.call23 (.cons zF (.cons zF (.cons zF .nil))) (acQ 4613937818241073152 2 0 _) (.cl rfl Tryz.call23 (.cons zF (.cons zF (.cons zF .nil))) (acQ 4602678819172646912 0 1 _) (.cl rfl Tryz.call23 (.cons zF (.cons zF (.cons zF .nil))) (acQ 4617315517961601024 0 0 _) ?_))))))
 refine .e rfl (afA Tryz.underlying60 Tryz.sizeOf32 Tryz.zeroValue32 rfl rfl rfl (.cons (tm rfl) (.inr ⟨_, rfl⟩) (.cons (tm rfl) (.inr ⟨_, rfl⟩) (.cons (tm rfl) (.inr ⟨_, rfl⟩) (.cons (tm rfl) (.inr ⟨_, rfl⟩) (.cons (tm rfl) (.inr ⟨_, rfl⟩) (.cons (tm rfl) (.inr ⟨_, rfl⟩) (.cons (tm rfl) (.inr ⟨_, rfl⟩) .nil))))))) (yS ⟨rfl, rfl⟩ (yS ⟨rfl, rfl⟩ (yS ⟨rfl, rfl⟩ (yS ⟨rfl, rfl⟩ (yS ⟨rfl, rfl⟩ (yS ⟨rfl, rfl⟩ (yS ⟨rfl, rfl⟩ amA)))))))) ?_
 iterate 10 refine AX ?_
 refine AWP.loopW (good_J H r1 r2) (7) ⟨0, akP, by omega, anJ, rfl, rfl, rfl⟩ sX (Heap.le.refl _) ?_
 rintro _ _ _ ⟨i, f1, hi, hf1, rfl, rfl, rfl⟩
 iterate 5 refine AX ?_
 refine .p rfl (adX Tryz.underlying58 (tm rfl)) ?_
 iterate 3 refine AX ?_
 refine AWP.cx rfl (fun hc61 => ?_) (fun hc61 => ?_)
 ·have hi7 : (i : Int) < 7 := hc61
  have hil : ((i : Nat) : Int).toNat < goodT.length := by show _ < 7; omega
  have hil2 : ((i : Nat) : Int).toNat < goodE.length := by show _ < 7; omega
  have hns := anN (goodE[((i : Nat) : Int).toNat]'hil2)
  iterate 9 refine AX ?_
  refine .p rfl (aaN Tryz.underlying58 Tryz.sizeOf9 (tm rfl) (tm rfl) (by omega) (by omega)) ?_
  refine AX ?_
  refine .s rfl (zH Tryz.call11 (evs2 rfl rfl) (abU lEn (afG _ mEn) (afH _ mEn) f1 hf1 (goodT[((i : Nat) : Int).toNat]'hil) (good_len _ (List.getElem_mem _)) r1 _ ((Heap.objs_set_ne _ _ hn12).trans (Heap.objs_set_same _ _ _)))) ?_
  rintro _ _ ⟨rfl, g1, hg1, rfl⟩
  rw [Heap.set_under hn12]
  erw [good_all _ hil hil2]
  iterate 3 refine AX ?_
  refine .s rfl (zL Tryz.zeroValue32 (zr32)) ?_
  rintro _ _ ⟨b10, hb10, rfl, hH⟩
  obtain rfl := hH.symm
  refine .e0 (zB Tryz.sizeOf32 (tm rfl) (tm rfl) rfl rfl (.inr ⟨_, rfl⟩) (Heap.objs_set_same _ _ _) (Nat.le_of_ble_eq_true rfl)) ?_
  try first | rw [Heap.set_set] | rw [Heap.set_under (by assumption)]
  iterate 3 refine AX ?_
  refine AWP.frz (t := 10) rfl (hb10) ?_
  refine AX ?_
  refine AWP.draw [(0, true), (1, true), (2, true), (3, true), (4, true), (5, true), (6, true), (7, true), (8, true), (9, true)] rfl (by decide +kernel) ?_
  iterate 3 refine AX ?_
  refine .p rfl rfl (aaN Tryz.underlying60 Tryz.sizeOf32 (tm rfl) (tm rfl) (by omega) (by omega)) ?_
  refine AX ?_
  refine .p rfl rfl (aeR Tryz.eqGuardType32 (tm rfl) (tm rfl) (eq5 (goodE[((i : Nat) : Int).toNat]'hil2) (goodE[((i : Nat) : Int).toNat]'hil2))) ?_
  iterate 6 refine AX ?_
  refine AWP.cond_false (tm rfl) (by rfl) ?_
  iterate 5 refine AX ?_
  refine .p rfl (zK (tm rfl) zF (by omega)) ?_
  iterate 3 refine AX ?_
  refine Round.mk (J := good_J H r1 r2) ⟨i + 1, g1, by omega, hg1, rfl, rfl, rfl⟩ sX (Heap.le.refl _) (by omega)
 ·iterate 8 refine AX ?_
  refine .s rfl (zH Tryz.call11 (.cons (tm rfl) (.cons (zR rfl) .nil)) (abU lEn (afG _ mEn) (afH _ mEn) f1 hf1 [49, 44, 50, 51, 52, 46, 53] (by decide) r1 _ ((Heap.objs_set_ne _ _ hn12).trans (Heap.objs_set_same _ _ _)))) ?_
  rintro _ _ ⟨rfl, g1, hg1, rfl⟩
  rw [Heap.set_under hn12]
  rw [show acE lEn (qM zQ [49, 44, 50, 51, 52, 46, 53]) = (⟨4653144203864309760, 0, 1, true, false⟩, 0) by kernel_rfl]
  iterate 3 refine AX ?_
  refine .s rfl (zL Tryz.zeroValue32 (zr32)) ?_
  rintro _ _ ⟨b12, hb12, rfl, hH⟩
  obtain rfl := hH.symm
  refine .e0 (zB Tryz.sizeOf32 (tm rfl) (tm rfl) rfl rfl (.inr ⟨_, rfl⟩) (Heap.objs_set_same _ _ _) (Nat.le_of_ble_eq_true rfl)) ?_
  try first | rw [Heap.set_set] | rw [Heap.set_under (by assumption)]
  iterate 3 refine AX ?_
  refine AWP.frz (t := 12) rfl (hb12) ?_
  iterate 3 refine AX ?_
  refine .s rfl (zH Tryz.call11 (.cons (tm rfl) (.cons (zR rfl) .nil)) (abU lEn (afG _ mEn) (afH _ mEn) g1 hg1 [49, 101, 51] (by decide) r1 _ ((Heap.objs_set_ne _ _ hn12).trans (Heap.objs_set_same _ _ _)))) ?_
  rintro _ _ ⟨rfl, g2, hg2, rfl⟩
  rw [Heap.set_under hn12]
  rw [show acE lEn (qM zQ [49, 101, 51]) = (⟨4652007308841189376, 0, 0, false, true⟩, 0) by kernel_rfl]
  iterate 3 refine AX ?_
  refine .s rfl (zL Tryz.zeroValue32 (zr32)) ?_
  rintro _ _ ⟨b14, hb14, rfl, hH⟩
  obtain rfl := hH.symm
  refine .e0 (zB Tryz.sizeOf32 (tm rfl) (tm rfl) rfl rfl (.inr ⟨_, rfl⟩) (Heap.objs_set_same _ _ _) (Nat.le_of_ble_eq_true rfl)) ?_
  try first | rw [Heap.set_set] | rw [Heap.set_under (by assumption)]
  iterate 3 refine AX ?_
  refine AWP.frz (t := 14) rfl (hb14) ?_
  iterate 3 refine AX ?_
  refine .s rfl (zH Tryz.call11 (.cons (tm rfl) (.cons (zR rfl) .nil)) (abU lSv (afG _ mSv) (afH _ mSv) akP anJ svT (by decide) r2 _ (Heap.objs_set_same _ _ _))) ?_
  rintro _ _ ⟨rfl, g3, hg3, rfl⟩
  rw [Heap.set_set]
  rw [sv_ok]
  iterate 3 refine AX ?_
  refine .s rfl (zL Tryz.zeroValue32 (zr32)) ?_
  rintro _ _ ⟨b16, hb16, rfl, hH⟩
  obtain rfl := hH.symm
  refine .e0 (zB Tryz.sizeOf32 (tm rfl) (tm rfl) rfl rfl (.inr ⟨_, rfl⟩) (Heap.objs_set_same _ _ _) (Nat.le_of_ble_eq_true rfl)) ?_
  try first | rw [Heap.set_set] | rw [Heap.set_under (by assumption)]
  iterate 3 refine AX ?_
  refine AWP.frz (t := 16) rfl (hb16) ?_
  iterate 2 refine AX ?_
  have hq1 := anN ⟨4653144203864309760, 0, 1, true, false⟩
  have hq2 := anN ⟨4652007308841189376, 0, 0, false, true⟩
  have hq3 := anN ⟨13876516240719085568, 2, 1, true, false⟩
  iterate 2 refine AX ?_
  refine .p rfl (zU [(0, 1), (1, 1), (2, 1), (3, 1), (4, 1)] Tryz.underlying32 Tryz.zeroValue32 (zr32) rfl (pl32 _ Tryz.underlying32) (.cons zF (.inl rfl) (.cons zF (.inl rfl) (.cons yN (.inl rfl) .nil))) rfl) ?_
  refine .p rfl (aeR Tryz.eqGuardType32 (tm rfl) (tm rfl) (eq5 ⟨4653144203864309760, 0, 1, true, false⟩ ⟨4653144203864309760, 0, 1, true, false⟩)) ?_
  iterate 6 refine AX ?_
  refine .gp rfl rfl rfl (by rfl) (zU [(0, 1), (1, 1), (2, 1), (3, 1), (4, 1)] Tryz.underlying32 Tryz.zeroValue32 (zr32) rfl (pl32 _ Tryz.underlying32) (.cons zF (.inl rfl) (.cons yN (.inl rfl) .nil)) rfl) ?_
  refine .gp rfl rfl rfl (by rfl) (aeR Tryz.eqGuardType32 (tm rfl) (tm rfl) (eq5 ⟨4652007308841189376, 0, 0, false, true⟩ ⟨4652007308841189376, 0, 0, false, true⟩)) ?_
  iterate 7 refine AX ?_
  refine .gp rfl rfl rfl (by rfl) (zU [(0, 1), (1, 1), (2, 1), (3, 1), (4, 1)] Tryz.underlying32 Tryz.zeroValue32 (zr32) rfl (pl32 _ Tryz.underlying32) (.cons zF (.inl rfl) (.cons zF (.inl rfl) (.cons zF (.inl rfl) (.cons yN (.inl rfl) .nil)))) rfl) ?_
  refine .gp rfl rfl rfl (by rfl) (aeR Tryz.eqGuardType32 (tm rfl) (tm rfl) (eq5 ⟨13876516240719085568, 2, 1, true, false⟩ ⟨13876516240719085568, 2, 1, true, false⟩)) ?_
  iterate 7 refine AX ?_
  refine AWP.cond_false (tm rfl) (by rfl) ?_
  iterate 4 refine AX ?_
  refine .e rfl (afA Tryz.underlying58 Tryz.sizeOf9 Tryz.zeroValue9 rfl rfl rfl (.cons (zR rfl) (.inl rfl) (.cons (zR rfl) (.inl rfl) (.cons (zR rfl) (.inl rfl) (.cons (zR rfl) (.inl rfl) (.cons (zR rfl) (.inl rfl) (.cons (zR rfl) (.inl rfl) (.cons (zR rfl) (.inl rfl) (.cons (zR rfl) (.inl rfl) .nil)))))))) (yS ⟨rfl, rfl⟩ (yS ⟨rfl, rfl⟩ (yS ⟨rfl, rfl⟩ (yS ⟨rfl, rfl⟩ (yS ⟨rfl, rfl⟩ (yS ⟨rfl, rfl⟩ (yS ⟨rfl, rfl⟩ (yS ⟨rfl, rfl⟩ amA))))))))) ?_
  iterate 10 refine AX ?_
  refine AWP.loopW (bad_J H r1 r2 g3) (8) ⟨0, g2, by omega, hg2, rfl, rfl, rfl⟩ sX (Heap.le.refl _) ?_
  rintro _ _ _ ⟨i, f1, hi, hf1, rfl, rfl, rfl⟩
  iterate 5 refine AX ?_
  refine .p rfl (adX Tryz.underlying58 (tm rfl)) ?_
  iterate 3 refine AX ?_
  refine AWP.cx rfl (fun hc127 => ?_) (fun hc127 => ?_)
  ·have hi8 : (i : Int) < 8 := hc127
   have hil : ((i : Nat) : Int).toNat < badT.length := by show _ < 8; omega
   iterate 9 refine AX ?_
   refine .p rfl (aaN Tryz.underlying58 Tryz.sizeOf9 (tm rfl) (tm rfl) (by omega) (by omega)) ?_
   refine AX ?_
   refine .s rfl (zH Tryz.call11 (evs2 rfl rfl) (abU lEn (afG _ mEn) (afH _ mEn) f1 hf1 (badT[((i : Nat) : Int).toNat]'hil) (bad_len _ (List.getElem_mem _)) r1 _ ((Heap.objs_set_ne _ _ hn12).trans (Heap.objs_set_same _ _ _)))) ?_
   rintro _ _ ⟨rfl, g1, hg1, rfl⟩
   rw [Heap.set_under hn12]
   rw [bad_all _ hil]
   iterate 3 refine AX ?_
   refine .s rfl (zL Tryz.zeroValue32 (zr32)) ?_
   rintro _ _ ⟨b20, hb20, rfl, hH⟩
   obtain rfl := hH.symm
   refine .e0 (zB Tryz.sizeOf32 (tm rfl) (tm rfl) rfl rfl (.inr ⟨_, rfl⟩) (Heap.objs_set_same _ _ _) (Nat.le_of_ble_eq_true rfl)) ?_
   try first | rw [Heap.set_set] | rw [Heap.set_under (by assumption)]
   iterate 3 refine AX ?_
   refine AWP.frz (t := 20) rfl (hb20) ?_
   refine AX ?_
   have hq4 := anN EntN.zero
   iterate 2 refine AX ?_
   refine .p rfl (zU [(0, 1), (1, 1), (2, 1), (3, 1), (4, 1)] Tryz.underlying32 Tryz.zeroValue32 (zr32) rfl (pl32 _ Tryz.underlying32) .nil rfl) ?_
   refine .p rfl (aeR Tryz.eqGuardType32 (tm rfl) (tm rfl) (eq5 EntN.zero EntN.zero)) ?_
   iterate 6 refine AX ?_
   refine AWP.cond_false (tm rfl) (by rfl) ?_
   iterate 5 refine AX ?_
   refine .p rfl (zK (tm rfl) zF (by omega)) ?_
   iterate 3 refine AX ?_
   refine Round.mk (J := bad_J H r1 r2 g3) ⟨i + 1, g1, by omega, hg1, rfl, rfl, rfl⟩ sX (Heap.le.refl _) (by omega)
  ·iterate 8 refine AX ?_
   refine .s rfl (zH Tryz.call11 (.cons (tm rfl) (.cons (zR rfl) .nil)) (abU lEn (afG _ mEn) (afH _ mEn) f1 hf1 [49, 101, 52, 48, 48] (by decide) r1 _ ((Heap.objs_set_ne _ _ hn12).trans (Heap.objs_set_same _ _ _)))) ?_
   rintro _ _ ⟨rfl, g1, hg1, rfl⟩
   rw [Heap.set_under hn12]
   rw [show acE lEn (qM zQ [49, 101, 52, 48, 48]) = (EntN.zero, 2) by kernel_rfl]
   iterate 3 refine AX ?_
   refine .s rfl (zL Tryz.zeroValue32 (zr32)) ?_
   rintro _ _ ⟨b22, hb22, rfl, hH⟩
   obtain rfl := hH.symm
   refine .e0 (zB Tryz.sizeOf32 (tm rfl) (tm rfl) rfl rfl (.inr ⟨_, rfl⟩) (Heap.objs_set_same _ _ _) (Nat.le_of_ble_eq_true rfl)) ?_
   try first | rw [Heap.set_set] | rw [Heap.set_under (by assumption)]
   iterate 3 refine AX ?_
   refine AWP.frz (t := 22) rfl (hb22) ?_
   iterate 2 refine AX ?_
   refine .e rfl (afA Tryz.underlying61 Tryz.sizeOf30 Tryz.zeroValue30 rfl rfl rfl (.cons zF (.inl rfl) (.cons zF (.inl rfl) (.cons zF (.inl rfl) (.cons zF (.inl rfl) (.cons zF (.inl rfl) (.cons zF (.inl rfl) (.cons zF (.inl rfl) (.cons zF (.inl rfl) .nil)))))))) (yS ⟨rfl, rfl⟩ (yS ⟨rfl, rfl⟩ (yS ⟨rfl, rfl⟩ (yS ⟨rfl, rfl⟩ (yS ⟨rfl, rfl⟩ (yS ⟨rfl, rfl⟩ (yS ⟨rfl, rfl⟩ (yS ⟨rfl, rfl⟩ amA))))))))) ?_
   iterate 5 refine AX ?_
   refine .e rfl (afA Tryz.underlying58 Tryz.sizeOf9 Tryz.zeroValue9 rfl rfl rfl (.cons (zR rfl) (.inl rfl) (.cons (zR rfl) (.inl rfl) (.cons (zR rfl) (.inl rfl) (.cons (zR rfl) (.inl rfl) (.cons (zR rfl) (.inl rfl) (.cons (zR rfl) (.inl rfl) (.cons (zR rfl) (.inl rfl) (.cons (zR rfl) (.inl rfl) .nil)))))))) (yS ⟨rfl, rfl⟩ (yS ⟨rfl, rfl⟩ (yS ⟨rfl, rfl⟩ (yS ⟨rfl, rfl⟩ (yS ⟨rfl, rfl⟩ (yS ⟨rfl, rfl⟩ (yS ⟨rfl, rfl⟩ (yS ⟨rfl, rfl⟩ amA))))))))) ?_
   iterate 10 refine AX ?_
   refine AWP.loopW (told_J _) (8) ⟨0, by omega, rfl, rfl, rfl⟩ sX (Heap.le.refl _) ?_
   rintro _ _ _ ⟨i, hi, rfl, rfl, rfl⟩
   iterate 5 refine AX ?_
   refine .p rfl (adX Tryz.underlying61 (tm rfl)) ?_
   iterate 3 refine AX ?_
   refine AWP.cx rfl (fun hc156 => ?_) (fun hc156 => ?_)
   ·have hi8 : (i : Int) < 8 := hc156
    have hil : ((i : Nat) : Int).toNat < shownX.length := by show _ < 8; omega
    have hil2 : ((i : Nat) : Int).toNat < shownT.length := by show _ < 8; omega
    iterate 5 refine AX ?_
    refine AWP.draw [(0, true), (1, true), (2, true), (3, true), (4, true), (6, true), (7, true), (8, true), (9, true), (5, false), (10, true)] rfl (by decide +kernel) ?_
    iterate 2 refine AX ?_
    refine .p rfl rfl (aaN Tryz.underlying61 Tryz.sizeOf30 (tm rfl) (tm rfl) (by omega) (by omega)) ?_
    iterate 4 refine AX ?_
    refine .p rfl rfl (aaN Tryz.underlying58 Tryz.sizeOf9 (tm rfl) (tm rfl) (by omega) (by omega)) ?_
    refine AX ?_
    refine .s rfl rfl (zH Tryz.call14 (evs2 rfl rfl) (ajC lDe (afG _ mDe) _ (shownX[((i : Nat) : Int).toNat]'hil) (shown_64 _ (List.getElem_mem _)) _)) ?_
    rintro _ _ ⟨rfl, hH⟩
    obtain rfl := hH.symm
    erw [bgB _ hil hil2]
    iterate 3 refine AX ?_
    refine AWP.cond_false (tm rfl) (by simp) ?_
    iterate 5 refine AX ?_
    refine .p rfl (zK (tm rfl) zF (by omega)) ?_
    iterate 3 refine AX ?_
    refine Round.mk (J := told_J _) ⟨i + 1, by omega, rfl, rfl, rfl⟩ sX (Heap.le.refl _) (by omega)
   ·iterate 11 refine AX ?_
    refine .gs rfl rfl rfl (by rfl) (zH Tryz.call14 (.cons zF (evs1 rfl)) (ajC lDe (afG _ mDe) _ 9218868437227405312 (by decide) _)) ?_
    rintro _ _ ⟨rfl, hH⟩
    obtain rfl := hH.symm
    rw [bgA]
    iterate 6 refine AX ?_
    refine Ret.go (.cons (.tmp _ _ rfl) .nil) H (Heap.le_set_new (Heap.le_set hr1 _) hr2b _) ?_
    exact ⟨rfl, rfl⟩

end Go.Proofs.YtfkeflcdadlmdaaGreatDoor
