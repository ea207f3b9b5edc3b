import Derived.Test.YtmmgbnolccpjoaaGreatDoorYd
import Derived.Test.YtmmgbnolccpjoaaGreatDoorSsk
import Derived.Test.YtmmgbnolccpjoaaGreatDoorVbk
import Derived.Test.YtmmgbnolccpjoaaGreatDoorV4
namespace Go.Proofs.YtmmgbnolccpjoaaGreatDoor
open Go Go.RowKit

def enL : Loc := ⟨[101, 110], [46], [44], [44], [45], [37], [36], true, false, 3⟩
def aaI (x : Nat) : Val := ⟨1, x, false, [], 0⟩
def adR (s : List UInt8) : Val := ⟨3, 0, false, s, 0⟩
theorem mEn : enL ∈ locs := by simp [locs, enL]
theorem yU {v : Val} (h : yO v = true) : (abP enL v).1.length ≤ 1000000 := aiA mEn h

set_option maxRecDepth 1000000 in
theorem hd0 : yJ enL (adR [49, 44, 50, 51, 52, 46, 53]) = (4653144203864309760, 0) := by kernel_rfl

set_option maxRecDepth 1000000 in
theorem hd1 : yJ enL (acP true) = (4607182418800017408, 0) := by kernel_rfl

set_option maxRecDepth 1000000 in
theorem hd2 : yJ enL (adR [120]) = (0, 3) := by kernel_rfl

set_option maxRecDepth 1000000 in
theorem hd3 : yJ enL (agC 0) = (0, 0) := by kernel_rfl

set_option maxRecDepth 1000000 in
theorem hd4 : acV (adR [116, 114, 117, 101]) = (true, 0) := by kernel_rfl

set_option maxRecDepth 1000000 in
theorem hd5 : acV (aaI 4602678819172646912) = (true, 0) := by kernel_rfl

set_option maxRecDepth 1000000 in
theorem hd6 : acV (adR [121, 101, 115]) = (false, 3) := by kernel_rfl

set_option maxRecDepth 1000000 in
theorem hd7 : aaA (adR [97]) (adR [66]) = -1 := by kernel_rfl

set_option maxRecDepth 1000000 in
theorem hd8 : aaA (aaI 4611686018427387904) (adR [49]) = -1 := by kernel_rfl

set_option maxRecDepth 1000000 in
theorem hd9 : aaA (acP true) (adR [122]) = 1 := by kernel_rfl

set_option maxRecDepth 1000000 in
theorem hd10 : aaA (agC 0) (adR []) = 0 := by kernel_rfl

set_option maxRecDepth 1000000 in
theorem hd11 : aaA (agC 0) (aaI 13830554455654793216) = 1 := by kernel_rfl

set_option maxRecDepth 1000000 in
theorem hd12 : yB enL [43] (adR [53]) (aaI 4607182418800017408) = aaI 4618441417868443648 := by kernel_rfl

set_option maxRecDepth 1000000 in
theorem hd13 : yB enL [47] (aaI 4607182418800017408) (aaI 0) = yN 2 := by kernel_rfl

set_option maxRecDepth 1000000 in
theorem hd14 : yB enL [94] (aaI 4611686018427387904) (aaI 13830554455654793216) = aaI 4602678819172646912 := by kernel_rfl

set_option maxRecDepth 1000000 in
theorem hd15 : yB enL [94] (aaI 0) (aaI 0) = yN 6 := by kernel_rfl

set_option maxRecDepth 1000000 in
theorem hd16 : yB enL [94] (aaI 4616189618054758400) (aaI 4602678819172646912) = aaI 4611686018427387904 := by kernel_rfl

set_option maxRecDepth 1000000 in
theorem hd17 : yB enL [94] (aaI 4611686018427387904) (aaI 4599075939470750515) = yN 6 := by kernel_rfl

set_option maxRecDepth 1000000 in
theorem hd18 : yB enL [94] (aaI 13844065254536904704) (aaI 4602678819172646912) = yN 6 := by kernel_rfl

set_option maxRecDepth 1000000 in
theorem hd19 : yB enL [42] (aaI 7598952565167317594) (aaI 7598952565167317594) = yN 6 := by kernel_rfl

set_option maxRecDepth 1000000 in
theorem hd20 : yB enL [38] (aaI 4607182418800017408) (acP true) = adR [49, 84, 82, 85, 69] := by kernel_rfl

set_option maxRecDepth 1000000 in
theorem hd21 : yB enL [38] (adR [49, 84, 82, 85, 69]) (adR [97]) = adR [49, 84, 82, 85, 69, 97] := by kernel_rfl

set_option maxRecDepth 1000000 in
theorem hd22 : yB enL [61] (adR [97]) (adR [65]) = acP true := by kernel_rfl

set_option maxRecDepth 1000000 in
theorem hd23 : yB enL [43] (yN 7) (yN 4) = yN 7 := by kernel_rfl

set_option maxRecDepth 1000000 in
theorem hd24 : aaU enL [45] (adR [120]) = yN 3 := by kernel_rfl

set_option maxRecDepth 1000000 in
theorem hd25 : aaU enL [37] (aaI 4632233691727265792) = aaI 4602678819172646912 := by kernel_rfl

theorem hdI : ahU 9218868437227405312 = yN 6 := by decide
attribute [local irreducible] yB aaU aaA yJ acV ahU

set_option maxRecDepth 100000 in
theorem yK (x : Nat) (H : Heap) : ACall Tryz.prog 26 [.int .u64 (x : Int)] H (fun y H' => y = (aaI x).av ∧ H' = H) := by
 refine ACall.of_body Tryz.func26 rfl Tryz.ntmps26 Tryz.results26 rfl ?_
 iterate 2 refine AX ?_
 refine .s rfl (zG Tryz.zeroValue24 (zr24)) ?_
 rintro _ _ ⟨b2, hb2, rfl, hH⟩
 obtain rfl := hH.symm
 iterate 5 refine AX ?_
 refine .p rfl (zL [(0, 1), (1, 1), (2, 1), (3, 1), (4, 1)] Tryz.underlying24 Tryz.zeroValue24 (zr24) rfl (pl24 _ Tryz.underlying24) (.cons zI (.inl rfl) (.cons (tm rfl) (.inl rfl) .nil)) rfl) (.e0 (zB Tryz.sizeOf24 (tm rfl) (tm rfl) rfl rfl (.inr ⟨_, rfl⟩) (Heap.objs_set_same _ _ _) (Nat.le_of_ble_eq_true rfl)) ?_)
 try first | rw [Heap.set_set] | rw [Heap.set_under (by assumption)]
 iterate 2 refine AX ?_
 refine AWP.frz (t := 2) rfl (hb2) ?_
 refine AX ?_
 refine Ret.go (.cons (.cellI _ _ _ _ rfl Tryz.isAgg24 Tryz.sizeOf24 rfl) .nil) _ (Heap.le.refl _) ?_
 exact ⟨rfl, rfl⟩

set_option maxRecDepth 100000 in
theorem qR (s : List UInt8) (H : Heap) : ACall Tryz.prog 27 [.str s] H (fun y H' => y = (adR s).av ∧ H' = H) := by
 refine ACall.of_body Tryz.func27 rfl Tryz.ntmps27 Tryz.results27 rfl ?_
 iterate 2 refine AX ?_
 refine .s rfl (zG Tryz.zeroValue24 (zr24)) ?_
 rintro _ _ ⟨b2, hb2, rfl, hH⟩
 obtain rfl := hH.symm
 iterate 5 refine AX ?_
 refine .p rfl (zL [(0, 1), (1, 1), (2, 1), (3, 1), (4, 1)] Tryz.underlying24 Tryz.zeroValue24 (zr24) rfl (pl24 _ Tryz.underlying24) (.cons zI (.inl rfl) (.cons (tm rfl) (.inl rfl) .nil)) rfl) (.e0 (zB Tryz.sizeOf24 (tm rfl) (tm rfl) rfl rfl (.inr ⟨_, rfl⟩) (Heap.objs_set_same _ _ _) (Nat.le_of_ble_eq_true rfl)) ?_)
 try first | rw [Heap.set_set] | rw [Heap.set_under (by assumption)]
 iterate 2 refine AX ?_
 refine AWP.frz (t := 2) rfl (hb2) ?_
 refine AX ?_
 refine Ret.go (.cons (.cellI _ _ _ _ rfl Tryz.isAgg24 Tryz.sizeOf24 rfl) .nil) _ (Heap.le.refl _) ?_
 exact ⟨rfl, rfl⟩

set_option maxRecDepth 100000 in
theorem aaN (n : Int) (H : Heap) : ACall Tryz.prog 33 [.int .i64 n] H (fun y H' => y = (yN n).av ∧ H' = H) := by
 refine ACall.of_body Tryz.func33 rfl Tryz.ntmps33 Tryz.results33 rfl ?_
 iterate 2 refine AX ?_
 refine .s rfl (zG Tryz.zeroValue24 (zr24)) ?_
 rintro _ _ ⟨b2, hb2, rfl, hH⟩
 obtain rfl := hH.symm
 iterate 5 refine AX ?_
 refine .p rfl (zL [(0, 1), (1, 1), (2, 1), (3, 1), (4, 1)] Tryz.underlying24 Tryz.zeroValue24 (zr24) rfl (pl24 _ Tryz.underlying24) (.cons zI (.inl rfl) (.cons (tm rfl) (.inl rfl) .nil)) rfl) (.e0 (zB Tryz.sizeOf24 (tm rfl) (tm rfl) rfl rfl (.inr ⟨_, rfl⟩) (Heap.objs_set_same _ _ _) (Nat.le_of_ble_eq_true rfl)) ?_)
 try first | rw [Heap.set_set] | rw [Heap.set_under (by assumption)]
 iterate 2 refine AX ?_
 refine AWP.frz (t := 2) rfl (hb2) ?_
 refine AX ?_
 refine Ret.go (.cons (.cellI _ _ _ _ rfl Tryz.isAgg24 Tryz.sizeOf24 rfl) .nil) _ (Heap.le.refl _) ?_
 exact ⟨rfl, rfl⟩

set_option maxRecDepth 100000 in
theorem ajX (b : Bool) (H : Heap) : ACall Tryz.prog 34 [.bool b] H (fun y H' => y = (acP b).av ∧ H' = H) := by
 refine ACall.of_body Tryz.func34 rfl Tryz.ntmps34 Tryz.results34 rfl ?_
 iterate 2 refine AX ?_
 refine .s rfl (zG Tryz.zeroValue24 (zr24)) ?_
 rintro _ _ ⟨b2, hb2, rfl, hH⟩
 obtain rfl := hH.symm
 iterate 5 refine AX ?_
 refine .p rfl (zL [(0, 1), (1, 1), (2, 1), (3, 1), (4, 1)] Tryz.underlying24 Tryz.zeroValue24 (zr24) rfl (pl24 _ Tryz.underlying24) (.cons zI (.inl rfl) (.cons (tm rfl) (.inl rfl) .nil)) rfl) (.e0 (zB Tryz.sizeOf24 (tm rfl) (tm rfl) rfl rfl (.inr ⟨_, rfl⟩) (Heap.objs_set_same _ _ _) (Nat.le_of_ble_eq_true rfl)) ?_)
 try first | rw [Heap.set_set] | rw [Heap.set_under (by assumption)]
 iterate 2 refine AX ?_
 refine AWP.frz (t := 2) rfl (hb2) ?_
 refine AX ?_
 refine Ret.go (.cons (.cellI _ _ _ _ rfl Tryz.isAgg24 Tryz.sizeOf24 rfl) .nil) _ (Heap.le.refl _) ?_
 exact ⟨rfl, rfl⟩

set_option maxRecDepth 100000 in
theorem auC (f : Nat → List AV) (hf : ROK f) (b : Nat) (H : Heap) (hb : H.objs b = some (.box 189 (qT f))) : ACall Tryz.prog 32 [opA enL b] H (fun y H' => y = .bool true ∧ ∃ f', ROK f' ∧ H' = H.set b (.box 189 (qT f'))) := by
 refine ACall.of_body Tryz.func32 rfl Tryz.ntmps32 Tryz.results32 rfl ?_
 iterate 8 refine AX ?_
 refine .cl rfl Tryz.call27 (.cons (zM rfl) .nil) (qR _ _) (.s rfl (zC Tryz.call12 (evs2 rfl rfl) (qZ enL (aaB _ mEn) (qI _ mEn) (adR [49, 44, 50, 51, 52, 46, 53]) (by decide) (by decide) f hf b _ (hb))) ?_)
 rintro _ _ ⟨rfl, f1, hf1, rfl⟩
 try rw [Heap.set_set]
 rw [hd0]
 iterate 10 refine AX ?_
 refine .cl rfl Tryz.call34 (.cons yF .nil) (ajX _ _) (.s rfl (zC Tryz.call12 (evs2 rfl rfl) (qZ enL (aaB _ mEn) (qI _ mEn) (acP true) (by decide) (by decide) f1 hf1 b _ (Heap.objs_set_same _ _ _))) ?_)
 rintro _ _ ⟨rfl, f2, hf2, rfl⟩
 try rw [Heap.set_set]
 rw [hd1]
 iterate 10 refine AX ?_
 refine .cl rfl Tryz.call27 (.cons (zM rfl) .nil) (qR _ _) (.s rfl (zC Tryz.call12 (evs2 rfl rfl) (qZ enL (aaB _ mEn) (qI _ mEn) (adR [120]) (by decide) (by decide) f2 hf2 b _ (Heap.objs_set_same _ _ _))) ?_)
 rintro _ _ ⟨rfl, f3, hf3, rfl⟩
 try rw [Heap.set_set]
 rw [hd2]
 iterate 10 refine AX ?_
 refine .p rfl (zL [(0, 1), (1, 1), (2, 1), (3, 1), (4, 1)] Tryz.underlying24 Tryz.zeroValue24 (zr24) rfl (pl24 _ Tryz.underlying24) .nil rfl) (.s rfl (zC Tryz.call12 (evs2 rfl rfl) (qZ enL (aaB _ mEn) (qI _ mEn) (agC 0) (by decide) (by decide) f3 hf3 b _ (Heap.objs_set_same _ _ _))) ?_)
 rintro _ _ ⟨rfl, f4, hf4, rfl⟩
 try rw [Heap.set_set]
 rw [hd3]
 iterate 10 refine AX ?_
 refine .cl rfl Tryz.call27 (.cons (zM rfl) .nil) (qR _ _) (.cl rfl Tryz.call14 (evs2 rfl rfl) (afM _ (adR [116, 114, 117, 101]) (by decide) (by decide) _) ?_)
 rw [hd4]
 iterate 10 refine AX ?_
 refine .cl rfl Tryz.call26 (.cons zI .nil) (yK _ _) (.cl rfl Tryz.call14 (evs2 rfl rfl) (afM _ (aaI 4602678819172646912) (by decide) (by decide) _) ?_)
 rw [hd5]
 iterate 10 refine AX ?_
 refine .cl rfl Tryz.call27 (.cons (zM rfl) .nil) (qR _ _) (.cl rfl Tryz.call14 (evs2 rfl rfl) (afM _ (adR [121, 101, 115]) (by decide) (by decide) _) ?_)
 rw [hd6]
 iterate 62 refine AX ?_
 refine AWP.cond_false (tm rfl) (by rfl) ?_
 iterate 5 refine AX ?_
 refine .cl rfl Tryz.call27 (.cons (zM rfl) .nil) (qR _ _) (.cl rfl Tryz.call27 (.cons (zM rfl) .nil) (qR _ _) (.cl rfl Tryz.call18 (evs3 rfl rfl rfl) (aaW _ (adR [97]) (adR [66]) (by decide) (by decide) (by decide) (by decide) _) ?_))
 rw [hd7]
 iterate 3 refine AX ?_
 refine .gs rfl rfl rfl (by rfl) (zC Tryz.call26 (.cons zI .nil) (yK _ _)) ?_
 rintro _ _ ⟨rfl, hH⟩
 obtain rfl := hH.symm
 refine .gs rfl rfl rfl (by rfl) (zC Tryz.call27 (.cons (zM rfl) .nil) (qR _ _)) ?_
 rintro _ _ ⟨rfl, hH⟩
 obtain rfl := hH.symm
 refine .gs rfl rfl rfl (by rfl) (zC Tryz.call18 (evs3 rfl rfl rfl) (aaW _ (aaI 4611686018427387904) (adR [49]) (by decide) (by decide) (by decide) (by decide) _)) ?_
 rintro _ _ ⟨rfl, hH⟩
 obtain rfl := hH.symm
 rw [hd8]
 iterate 4 refine AX ?_
 refine .gs rfl rfl rfl (by rfl) (zC Tryz.call34 (.cons yF .nil) (ajX _ _)) ?_
 rintro _ _ ⟨rfl, hH⟩
 obtain rfl := hH.symm
 refine .gs rfl rfl rfl (by rfl) (zC Tryz.call27 (.cons (zM rfl) .nil) (qR _ _)) ?_
 rintro _ _ ⟨rfl, hH⟩
 obtain rfl := hH.symm
 refine .gs rfl rfl rfl (by rfl) (zC Tryz.call18 (evs3 rfl rfl rfl) (aaW _ (acP true) (adR [122]) (by decide) (by decide) (by decide) (by decide) _)) ?_
 rintro _ _ ⟨rfl, hH⟩
 obtain rfl := hH.symm
 rw [hd9]
 iterate 4 refine AX ?_
 refine .gp rfl rfl rfl (by rfl) (zL [(0, 1), (1, 1), (2, 1), (3, 1), (4, 1)] Tryz.underlying24 Tryz.zeroValue24 (zr24) rfl (pl24 _ Tryz.underlying24) .nil rfl) (.gs rfl rfl rfl (by rfl) (zC Tryz.call27 (.cons (zM rfl) .nil) (qR _ _)) ?_)
 rintro _ _ ⟨rfl, hH⟩
 obtain rfl := hH.symm
 refine .gs rfl rfl rfl (by rfl) (zC Tryz.call18 (evs3 rfl rfl rfl) (aaW _ (agC 0) (adR []) (by decide) (by decide) (by decide) (by decide) _)) ?_
 rintro _ _ ⟨rfl, hH⟩
 obtain rfl := hH.symm
 rw [hd10]
 iterate 4 refine AX ?_
 refine .gp rfl rfl rfl (by rfl) (zL [(0, 1), (1, 1), (2, 1), (3, 1), (4, 1)] Tryz.underlying24 Tryz.zeroValue24 (zr24) rfl (pl24 _ Tryz.underlying24) .nil rfl) (.gs rfl rfl rfl (by rfl) (zC Tryz.call26 (.cons zI .nil) (yK _ _)) ?_)
 rintro _ _ ⟨rfl, hH⟩
 obtain rfl := hH.symm
 refine .gs rfl rfl rfl (by rfl) (zC Tryz.call18 (evs3 rfl rfl rfl) (aaW _ (agC 0) (aaI 13830554455654793216) (by decide) (by decide) (by decide) (by decide) _)) ?_
 rintro _ _ ⟨rfl, hH⟩
 obtain rfl := hH.symm
 rw [hd11]
 iterate 6 refine AX ?_
 refine Ret.go (.cons (.tmp _ _ rfl) .nil) _ (Heap.le.refl _) ?_
 exact ⟨rfl, f4, hf4, rfl⟩

set_option maxRecDepth 100000 in
theorem baQ (H : Heap) : ACall Tryz.prog 8 [] H (fun y H' => y = .bool true ∧ H' = H) := by
 have k23 : decide (aaI 4618441417868443648 = aaI 4618441417868443648) = true := decide_eq_true rfl
 have k30 : decide (yN 2 = yN 2) = true := decide_eq_true rfl
 have k38 : decide (aaI 4602678819172646912 = aaI 4602678819172646912) = true := decide_eq_true rfl
 have k46 : decide (yN 6 = yN 6) = true := decide_eq_true rfl
 have k53 : decide (aaI 4611686018427387904 = aaI 4611686018427387904) = true := decide_eq_true rfl
 have k60 : decide (yN 6 = yN 6) = true := decide_eq_true rfl
 have k68 : decide (yN 6 = yN 6) = true := decide_eq_true rfl
 have k76 : decide (yN 6 = yN 6) = true := decide_eq_true rfl
 have k86 : decide (adR [49, 84, 82, 85, 69, 97] = adR [49, 84, 82, 85, 69, 97]) = true := decide_eq_true rfl
 have k92 : decide (yN 3 = yN 3) = true := decide_eq_true rfl
 have k99 : decide (aaI 4602678819172646912 = aaI 4602678819172646912) = true := decide_eq_true rfl
 have k107 : decide (acP true = acP true) = true := decide_eq_true rfl
 have k115 : decide (yN 7 = yN 7) = true := decide_eq_true rfl
 have k130 : decide (yN 6 = yN 6) = true := decide_eq_true rfl
 refine ACall.of_body Tryz.func8 rfl Tryz.ntmps8 Tryz.results8 rfl ?_
 iterate 7 refine AX ?_
 refine .cl rfl Tryz.call31 (.cons (zM rfl) .nil) (aoI (l := enL) mEn _) ?_
 iterate 3 refine AX ?_
 refine .s rfl (zG Tryz.zeroValue29 (zr29)) ?_
 rintro _ _ ⟨b1, hb1, rfl, hH⟩
 obtain rfl := hH.symm
 refine .e0 (zB Tryz.sizeOf29 (tm rfl) (tm rfl) rfl rfl (.inr ⟨_, rfl⟩) (Heap.objs_set_same _ _ _) (Nat.le_of_ble_eq_true rfl)) ?_
 try first | rw [Heap.set_set] | rw [Heap.set_under (by assumption)]
 iterate 3 refine AX ?_
 refine AWP.frz (t := 1) rfl (hb1) ?_
 iterate 3 refine AX ?_
 refine .s rfl (zC Tryz.call11 (evs1 rfl) (anD enL _)) ?_
 rintro _ _ ⟨b, hb0, rfl, rfl⟩
 iterate 7 refine AX ?_
 refine .p rfl (azS Tryz.underlying34 (tm rfl) ahM) ?_
 iterate 2 refine AX ?_
 refine AWP.cond_false (tm rfl) (by rfl) ?_
 iterate 5 refine AX ?_
 refine .s rfl (zC Tryz.call32 (evs1 rfl) (auC aoF asS b _ (Heap.objs_set_same _ _ _))) ?_
 rintro _ _ ⟨rfl, f0, hf0, rfl⟩
 rw [Heap.set_set]
 iterate 6 refine AX ?_
 refine .cl rfl Tryz.call27 (.cons (zM rfl) .nil) (qR _ _) (.cl rfl Tryz.call26 (.cons zI .nil) (yK _ _) ?_)
 refine .s rfl (zC Tryz.call22 (.cons (tm rfl) (.cons (zM rfl) (evs2 rfl rfl))) (yT enL (aaB _ mEn) (qI _ mEn) [43] (adR [53]) (by decide) (by decide) (aaI 4607182418800017408) (by decide) (by decide) (yU (v := adR [53]) (by decide +kernel)) (yU (v := aaI 4607182418800017408) (by decide +kernel)) f0 hf0 b _ (Heap.objs_set_same _ _ _))) ?_
 rintro _ _ ⟨rfl, f1, hf1, rfl⟩
 try rw [Heap.set_set]
 rw [hd12]
 refine .cl rfl Tryz.call26 (.cons zI .nil) (yK _ _) ?_
 refine .p rfl (yH Tryz.eqGuardType24 (tm rfl) (tm rfl) (eqVal (aaI 4618441417868443648) (aaI 4618441417868443648))) ?_
 iterate 2 refine AX ?_
 refine .gs rfl rfl rfl (by rfl) (zC Tryz.call26 (.cons zI .nil) (yK _ _)) ?_
 rintro _ _ ⟨rfl, hH⟩
 obtain rfl := hH.symm
 refine .gs rfl rfl rfl (by rfl) (zC Tryz.call26 (.cons zI .nil) (yK _ _)) ?_
 rintro _ _ ⟨rfl, hH⟩
 obtain rfl := hH.symm
 refine .gs rfl rfl rfl (by rfl) (zC Tryz.call22 (.cons (tm rfl) (.cons (zM rfl) (evs2 rfl rfl))) (yT enL (aaB _ mEn) (qI _ mEn) [47] (aaI 4607182418800017408) (by decide) (by decide) (aaI 0) (by decide) (by decide) (yU (v := aaI 4607182418800017408) (by decide +kernel)) (yU (v := aaI 0) (by decide +kernel)) f1 hf1 b _ (Heap.objs_set_same _ _ _))) ?_
 rintro _ _ ⟨rfl, f2, hf2, rfl⟩
 try rw [Heap.set_set]
 rw [hd13]
 refine .gs rfl rfl rfl (by rfl) (zC Tryz.call33 (.cons zI .nil) (aaN _ _)) ?_
 rintro _ _ ⟨rfl, hH⟩
 obtain rfl := hH.symm
 refine .gp rfl rfl rfl (by rfl) (yH Tryz.eqGuardType24 (tm rfl) (tm rfl) (eqVal (yN 2) (yN 2))) ?_
 iterate 3 refine AX ?_
 refine .gs rfl rfl rfl (by rfl) (zC Tryz.call26 (.cons zI .nil) (yK _ _)) ?_
 rintro _ _ ⟨rfl, hH⟩
 obtain rfl := hH.symm
 refine .gs rfl rfl rfl (by rfl) (zC Tryz.call26 (.cons zI .nil) (yK _ _)) ?_
 rintro _ _ ⟨rfl, hH⟩
 obtain rfl := hH.symm
 refine .gs rfl rfl rfl (by rfl) (zC Tryz.call22 (.cons (tm rfl) (.cons (zM rfl) (evs2 rfl rfl))) (yT enL (aaB _ mEn) (qI _ mEn) [94] (aaI 4611686018427387904) (by decide) (by decide) (aaI 13830554455654793216) (by decide) (by decide) (yU (v := aaI 4611686018427387904) (by decide +kernel)) (yU (v := aaI 13830554455654793216) (by decide +kernel)) f2 hf2 b _ (Heap.objs_set_same _ _ _))) ?_
 rintro _ _ ⟨rfl, f3, hf3, rfl⟩
 try rw [Heap.set_set]
 rw [hd14]
 refine .gs rfl rfl rfl (by rfl) (zC Tryz.call26 (.cons zI .nil) (yK _ _)) ?_
 rintro _ _ ⟨rfl, hH⟩
 obtain rfl := hH.symm
 refine .gp rfl rfl rfl (by rfl) (yH Tryz.eqGuardType24 (tm rfl) (tm rfl) (eqVal (aaI 4602678819172646912) (aaI 4602678819172646912))) ?_
 iterate 3 refine AX ?_
 refine .gs rfl rfl rfl (by rfl) (zC Tryz.call26 (.cons zI .nil) (yK _ _)) ?_
 rintro _ _ ⟨rfl, hH⟩
 obtain rfl := hH.symm
 refine .gs rfl rfl rfl (by rfl) (zC Tryz.call26 (.cons zI .nil) (yK _ _)) ?_
 rintro _ _ ⟨rfl, hH⟩
 obtain rfl := hH.symm
 refine .gs rfl rfl rfl (by rfl) (zC Tryz.call22 (.cons (tm rfl) (.cons (zM rfl) (evs2 rfl rfl))) (yT enL (aaB _ mEn) (qI _ mEn) [94] (aaI 0) (by decide) (by decide) (aaI 0) (by decide) (by decide) (yU (v := aaI 0) (by decide +kernel)) (yU (v := aaI 0) (by decide +kernel)) f3 hf3 b _ (Heap.objs_set_same _ _ _))) ?_
 rintro _ _ ⟨rfl, f4, hf4, rfl⟩
 try rw [Heap.set_set]
 rw [hd15]
 refine .gs rfl rfl rfl (by rfl) (zC Tryz.call33 (.cons zI .nil) (aaN _ _)) ?_
 rintro _ _ ⟨rfl, hH⟩
 obtain rfl := hH.symm
 refine .gp rfl rfl rfl (by rfl) (yH Tryz.eqGuardType24 (tm rfl) (tm rfl) (eqVal (yN 6) (yN 6))) ?_
 iterate 7 refine AX ?_
 refine .cl rfl Tryz.call26 (.cons zI .nil) (yK _ _) (.cl rfl Tryz.call26 (.cons zI .nil) (yK _ _) ?_)
 refine .s rfl (zC Tryz.call22 (.cons (tm rfl) (.cons (zM rfl) (evs2 rfl rfl))) (yT enL (aaB _ mEn) (qI _ mEn) [94] (aaI 4616189618054758400) (by decide) (by decide) (aaI 4602678819172646912) (by decide) (by decide) (yU (v := aaI 4616189618054758400) (by decide +kernel)) (yU (v := aaI 4602678819172646912) (by decide +kernel)) f4 hf4 b _ (Heap.objs_set_same _ _ _))) ?_
 rintro _ _ ⟨rfl, f5, hf5, rfl⟩
 try rw [Heap.set_set]
 rw [hd16]
 refine .cl rfl Tryz.call26 (.cons zI .nil) (yK _ _) ?_
 refine .p rfl (yH Tryz.eqGuardType24 (tm rfl) (tm rfl) (eqVal (aaI 4611686018427387904) (aaI 4611686018427387904))) ?_
 iterate 2 refine AX ?_
 refine .gs rfl rfl rfl (by rfl) (zC Tryz.call26 (.cons zI .nil) (yK _ _)) ?_
 rintro _ _ ⟨rfl, hH⟩
 obtain rfl := hH.symm
 refine .gs rfl rfl rfl (by rfl) (zC Tryz.call26 (.cons zI .nil) (yK _ _)) ?_
 rintro _ _ ⟨rfl, hH⟩
 obtain rfl := hH.symm
 refine .gs rfl rfl rfl (by rfl) (zC Tryz.call22 (.cons (tm rfl) (.cons (zM rfl) (evs2 rfl rfl))) (yT enL (aaB _ mEn) (qI _ mEn) [94] (aaI 4611686018427387904) (by decide) (by decide) (aaI 4599075939470750515) (by decide) (by decide) (yU (v := aaI 4611686018427387904) (by decide +kernel)) (yU (v := aaI 4599075939470750515) (by decide +kernel)) f5 hf5 b _ (Heap.objs_set_same _ _ _))) ?_
 rintro _ _ ⟨rfl, f6, hf6, rfl⟩
 try rw [Heap.set_set]
 rw [hd17]
 refine .gs rfl rfl rfl (by rfl) (zC Tryz.call33 (.cons zI .nil) (aaN _ _)) ?_
 rintro _ _ ⟨rfl, hH⟩
 obtain rfl := hH.symm
 refine .gp rfl rfl rfl (by rfl) (yH Tryz.eqGuardType24 (tm rfl) (tm rfl) (eqVal (yN 6) (yN 6))) ?_
 iterate 3 refine AX ?_
 refine .gs rfl rfl rfl (by rfl) (zC Tryz.call26 (.cons zI .nil) (yK _ _)) ?_
 rintro _ _ ⟨rfl, hH⟩
 obtain rfl := hH.symm
 refine .gs rfl rfl rfl (by rfl) (zC Tryz.call26 (.cons zI .nil) (yK _ _)) ?_
 rintro _ _ ⟨rfl, hH⟩
 obtain rfl := hH.symm
 refine .gs rfl rfl rfl (by rfl) (zC Tryz.call22 (.cons (tm rfl) (.cons (zM rfl) (evs2 rfl rfl))) (yT enL (aaB _ mEn) (qI _ mEn) [94] (aaI 13844065254536904704) (by decide) (by decide) (aaI 4602678819172646912) (by decide) (by decide) (yU (v := aaI 13844065254536904704) (by decide +kernel)) (yU (v := aaI 4602678819172646912) (by decide +kernel)) f6 hf6 b _ (Heap.objs_set_same _ _ _))) ?_
 rintro _ _ ⟨rfl, f7, hf7, rfl⟩
 try rw [Heap.set_set]
 rw [hd18]
 refine .gs rfl rfl rfl (by rfl) (zC Tryz.call33 (.cons zI .nil) (aaN _ _)) ?_
 rintro _ _ ⟨rfl, hH⟩
 obtain rfl := hH.symm
 refine .gp rfl rfl rfl (by rfl) (yH Tryz.eqGuardType24 (tm rfl) (tm rfl) (eqVal (yN 6) (yN 6))) ?_
 iterate 3 refine AX ?_
 refine .gs rfl rfl rfl (by rfl) (zC Tryz.call26 (.cons zI .nil) (yK _ _)) ?_
 rintro _ _ ⟨rfl, hH⟩
 obtain rfl := hH.symm
 refine .gs rfl rfl rfl (by rfl) (zC Tryz.call26 (.cons zI .nil) (yK _ _)) ?_
 rintro _ _ ⟨rfl, hH⟩
 obtain rfl := hH.symm
 refine .gs rfl rfl rfl (by rfl) (zC Tryz.call22 (.cons (tm rfl) (.cons (zM rfl) (evs2 rfl rfl))) (yT enL (aaB _ mEn) (qI _ mEn) [42] (aaI 7598952565167317594) (by decide) (by decide) (aaI 7598952565167317594) (by decide) (by decide) (yU (v := aaI 7598952565167317594) (by decide +kernel)) (yU (v := aaI 7598952565167317594) (by decide +kernel)) f7 hf7 b _ (Heap.objs_set_same _ _ _))) ?_
 rintro _ _ ⟨rfl, f8, hf8, rfl⟩
 try rw [Heap.set_set]
 rw [hd19]
 refine .gs rfl rfl rfl (by rfl) (zC Tryz.call33 (.cons zI .nil) (aaN _ _)) ?_
 rintro _ _ ⟨rfl, hH⟩
 obtain rfl := hH.symm
 refine .gp rfl rfl rfl (by rfl) (yH Tryz.eqGuardType24 (tm rfl) (tm rfl) (eqVal (yN 6) (yN 6))) ?_
 iterate 8 refine AX ?_
 refine .cl rfl Tryz.call26 (.cons zI .nil) (yK _ _) (.cl rfl Tryz.call34 (.cons yF .nil) (ajX _ _) ?_)
 refine .s rfl (zC Tryz.call22 (.cons (tm rfl) (.cons (zM rfl) (evs2 rfl rfl))) (yT enL (aaB _ mEn) (qI _ mEn) [38] (aaI 4607182418800017408) (by decide) (by decide) (acP true) (by decide) (by decide) (yU (v := aaI 4607182418800017408) (by decide +kernel)) (yU (v := acP true) (by decide +kernel)) f8 hf8 b _ (Heap.objs_set_same _ _ _))) ?_
 rintro _ _ ⟨rfl, f9, hf9, rfl⟩
 try rw [Heap.set_set]
 rw [hd20]
 refine .cl rfl Tryz.call27 (.cons (zM rfl) .nil) (qR _ _) ?_
 refine .s rfl (zC Tryz.call22 (.cons (tm rfl) (.cons (zM rfl) (evs2 rfl rfl))) (yT enL (aaB _ mEn) (qI _ mEn) [38] (adR [49, 84, 82, 85, 69]) (by decide) (by decide) (adR [97]) (by decide) (by decide) (yU (v := adR [49, 84, 82, 85, 69]) (by decide +kernel)) (yU (v := adR [97]) (by decide +kernel)) f9 hf9 b _ (Heap.objs_set_same _ _ _))) ?_
 rintro _ _ ⟨rfl, f10, hf10, rfl⟩
 try rw [Heap.set_set]
 rw [hd21]
 refine .cl rfl Tryz.call27 (.cons (zM rfl) .nil) (qR _ _) ?_
 refine .p rfl (yH Tryz.eqGuardType24 (tm rfl) (tm rfl) (eqVal (adR [49, 84, 82, 85, 69, 97]) (adR [49, 84, 82, 85, 69, 97]))) ?_
 iterate 2 refine AX ?_
 refine .gs rfl rfl rfl (by rfl) (zC Tryz.call27 (.cons (zM rfl) .nil) (qR _ _)) ?_
 rintro _ _ ⟨rfl, hH⟩
 obtain rfl := hH.symm
 refine .gs rfl rfl rfl (by rfl) (zC Tryz.call20 (.cons (tm rfl) (.cons (zM rfl) (evs1 rfl))) (agU enL (aaB _ mEn) (qI _ mEn) [45] (adR [120]) (by decide) (by decide) f10 hf10 b _ (Heap.objs_set_same _ _ _))) ?_
 rintro _ _ ⟨rfl, f11, hf11, rfl⟩
 try rw [Heap.set_set]
 rw [hd24]
 refine .gs rfl rfl rfl (by rfl) (zC Tryz.call33 (.cons zI .nil) (aaN _ _)) ?_
 rintro _ _ ⟨rfl, hH⟩
 obtain rfl := hH.symm
 refine .gp rfl rfl rfl (by rfl) (yH Tryz.eqGuardType24 (tm rfl) (tm rfl) (eqVal (yN 3) (yN 3))) ?_
 iterate 3 refine AX ?_
 refine .gs rfl rfl rfl (by rfl) (zC Tryz.call26 (.cons zI .nil) (yK _ _)) ?_
 rintro _ _ ⟨rfl, hH⟩
 obtain rfl := hH.symm
 refine .gs rfl rfl rfl (by rfl) (zC Tryz.call20 (.cons (tm rfl) (.cons (zM rfl) (evs1 rfl))) (agU enL (aaB _ mEn) (qI _ mEn) [37] (aaI 4632233691727265792) (by decide) (by decide) f11 hf11 b _ (Heap.objs_set_same _ _ _))) ?_
 rintro _ _ ⟨rfl, f12, hf12, rfl⟩
 try rw [Heap.set_set]
 rw [hd25]
 refine .gs rfl rfl rfl (by rfl) (zC Tryz.call26 (.cons zI .nil) (yK _ _)) ?_
 rintro _ _ ⟨rfl, hH⟩
 obtain rfl := hH.symm
 refine .gp rfl rfl rfl (by rfl) (yH Tryz.eqGuardType24 (tm rfl) (tm rfl) (eqVal (aaI 4602678819172646912) (aaI 4602678819172646912))) ?_
 iterate 3 refine AX ?_
 refine .gs rfl rfl rfl (by rfl) (zC Tryz.call27 (.cons (zM rfl) .nil) (qR _ _)) ?_
 rintro _ _ ⟨rfl, hH⟩
 obtain rfl := hH.symm
 refine .gs rfl rfl rfl (by rfl) (zC Tryz.call27 (.cons (zM rfl) .nil) (qR _ _)) ?_
 rintro _ _ ⟨rfl, hH⟩
 obtain rfl := hH.symm
 refine .gs rfl rfl rfl (by rfl) (zC Tryz.call22 (.cons (tm rfl) (.cons (zM rfl) (evs2 rfl rfl))) (yT enL (aaB _ mEn) (qI _ mEn) [61] (adR [97]) (by decide) (by decide) (adR [65]) (by decide) (by decide) (yU (v := adR [97]) (by decide +kernel)) (yU (v := adR [65]) (by decide +kernel)) f12 hf12 b _ (Heap.objs_set_same _ _ _))) ?_
 rintro _ _ ⟨rfl, f13, hf13, rfl⟩
 try rw [Heap.set_set]
 rw [hd22]
 refine .gs rfl rfl rfl (by rfl) (zC Tryz.call34 (.cons yF .nil) (ajX _ _)) ?_
 rintro _ _ ⟨rfl, hH⟩
 obtain rfl := hH.symm
 refine .gp rfl rfl rfl (by rfl) (yH Tryz.eqGuardType24 (tm rfl) (tm rfl) (eqVal (acP true) (acP true))) ?_
 iterate 3 refine AX ?_
 refine .gs rfl rfl rfl (by rfl) (zC Tryz.call33 (.cons zI .nil) (aaN _ _)) ?_
 rintro _ _ ⟨rfl, hH⟩
 obtain rfl := hH.symm
 refine .gs rfl rfl rfl (by rfl) (zC Tryz.call33 (.cons zI .nil) (aaN _ _)) ?_
 rintro _ _ ⟨rfl, hH⟩
 obtain rfl := hH.symm
 refine .gs rfl rfl rfl (by rfl) (zC Tryz.call22 (.cons (tm rfl) (.cons (zM rfl) (evs2 rfl rfl))) (yT enL (aaB _ mEn) (qI _ mEn) [43] (yN 7) (by decide) (by decide) (yN 4) (by decide) (by decide) (yU (v := yN 7) (by decide +kernel)) (yU (v := yN 4) (by decide +kernel)) f13 hf13 b _ (Heap.objs_set_same _ _ _))) ?_
 rintro _ _ ⟨rfl, f14, hf14, rfl⟩
 try rw [Heap.set_set]
 rw [hd23]
 refine .gs rfl rfl rfl (by rfl) (zC Tryz.call33 (.cons zI .nil) (aaN _ _)) ?_
 rintro _ _ ⟨rfl, hH⟩
 obtain rfl := hH.symm
 refine .gp rfl rfl rfl (by rfl) (yH Tryz.eqGuardType24 (tm rfl) (tm rfl) (eqVal (yN 7) (yN 7))) ?_
 iterate 17 refine AX ?_
 refine .gs rfl rfl rfl (by rfl) (zC Tryz.call35 (.cons zI .nil) (yP 9218868437227405312 (by decide) _)) ?_
 rintro _ _ ⟨rfl, hH⟩
 obtain rfl := hH.symm
 rw [hdI]
 refine .gs rfl rfl rfl (by rfl) (zC Tryz.call33 (.cons zI .nil) (aaN _ _)) ?_
 rintro _ _ ⟨rfl, hH⟩
 obtain rfl := hH.symm
 refine .gp rfl rfl rfl (by rfl) (yH Tryz.eqGuardType24 (tm rfl) (tm rfl) (eqVal (yN 6) (yN 6))) ?_
 iterate 5 refine AX ?_
 refine Ret.go (.cons (.tmp _ _ rfl) .nil) H (Heap.le_set hb0 _) ?_
 exact ⟨rfl, rfl⟩

end Go.Proofs.YtmmgbnolccpjoaaGreatDoor
