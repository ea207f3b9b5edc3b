/-
  A stage of the head of the laws of needs.
-/
import Derived.Test.YthhcdmmihjhipaaGreatDoorK3
namespace Go.Proofs.YthhcdmmihjhipaaGreatDoor.Cc
open Go Go.RowKit

set_option maxRecDepth 1000000
theorem st0 : stageB (evC P (mkTy P) ng0 call1 119 100000 (seqL (rest 0)) [] (sets es0 .leaf) ⟨sets ks0 h0.t, h0.nn⟩) es1 ks1 = true := by kernel_rfl
theorem ok0 : ksOK h0.nn 13 ks1 = true := by kernel_rfl
theorem oe0 : esOK h0.nn ks1 es1 = true := by kernel_rfl
theorem sq0 : isSeq (rest 0) = true := by kernel_rfl
theorem st1 : stageB (evC P (mkTy P) ng0 call1 119 100000 (seqL (rest 1)) [] (sets es1 .leaf) ⟨sets ks1 h0.t, 13⟩) es2 ks2 = true := by kernel_rfl
theorem ok1 : ksOK h0.nn 40 ks2 = true := by kernel_rfl
theorem oe1 : esOK h0.nn ks2 es2 = true := by kernel_rfl
theorem sq1 : isSeq (rest 1) = true := by kernel_rfl
theorem st2 : stageB (evC P (mkTy P) ng0 call1 119 100000 (seqL (rest 2)) [] (sets es2 .leaf) ⟨sets ks2 h0.t, 40⟩) es3 ks3 = true := by kernel_rfl
theorem ok2 : ksOK h0.nn 85 ks3 = true := by kernel_rfl
theorem oe2 : esOK h0.nn ks3 es3 = true := by kernel_rfl
theorem sq2 : isSeq (rest 2) = true := by kernel_rfl
theorem st3 : stageB (evC P (mkTy P) ng0 call1 119 100000 (seqL (rest 3)) [] (sets es3 .leaf) ⟨sets ks3 h0.t, 85⟩) es4 ks4 = true := by kernel_rfl
theorem ok3 : ksOK h0.nn 95 ks4 = true := by kernel_rfl
theorem oe3 : esOK h0.nn ks4 es4 = true := by kernel_rfl
theorem sq3 : isSeq (rest 3) = true := by kernel_rfl
theorem st4 : stageB (evC P (mkTy P) ng0 call1 119 100000 (seqL (rest 4)) [] (sets es4 .leaf) ⟨sets ks4 h0.t, 95⟩) es5 ks5 = true := by kernel_rfl
theorem ok4 : ksOK h0.nn 95 ks5 = true := by kernel_rfl
theorem oe4 : esOK h0.nn ks5 es5 = true := by kernel_rfl
theorem sq4 : isSeq (rest 4) = true := by kernel_rfl
theorem st5 : stageB (evC P (mkTy P) ng0 call1 119 100000 (seqL (rest 5)) [] (sets es5 .leaf) ⟨sets ks5 h0.t, 95⟩) es6 ks6 = true := by kernel_rfl
theorem ok5 : ksOK h0.nn 100 ks6 = true := by kernel_rfl
theorem oe5 : esOK h0.nn ks6 es6 = true := by kernel_rfl
theorem sq5 : isSeq (rest 5) = true := by kernel_rfl
theorem st6 : stageB (evC P (mkTy P) ng0 call1 119 100000 (seqL (rest 6)) [] (sets es6 .leaf) ⟨sets ks6 h0.t, 100⟩) es7 ks7 = true := by kernel_rfl
theorem ok6 : ksOK h0.nn 101 ks7 = true := by kernel_rfl
theorem oe6 : esOK h0.nn ks7 es7 = true := by kernel_rfl
theorem sq6 : isSeq (rest 6) = true := by kernel_rfl
theorem st7 : stageB (evC P (mkTy P) ng0 call1 119 100000 (seqL (rest 7)) [] (sets es7 .leaf) ⟨sets ks7 h0.t, 101⟩) es8 ks8 = true := by kernel_rfl
theorem ok7 : ksOK h0.nn 112 ks8 = true := by kernel_rfl
theorem oe7 : esOK h0.nn ks8 es8 = true := by kernel_rfl
theorem sq7 : isSeq (rest 7) = true := by kernel_rfl
theorem st8 : stageB (evC P (mkTy P) ng0 call1 119 100000 (seqL (rest 8)) [] (sets es8 .leaf) ⟨sets ks8 h0.t, 112⟩) es9 ks9 = true := by kernel_rfl
theorem ok8 : ksOK h0.nn 113 ks9 = true := by kernel_rfl
theorem oe8 : esOK h0.nn ks9 es9 = true := by kernel_rfl
theorem sq8 : isSeq (rest 8) = true := by kernel_rfl
theorem st9 : stageB (evC P (mkTy P) ng0 call1 119 100000 (seqL (seqL (rest 9))) [] (sets es9 .leaf) ⟨sets ks9 h0.t, 113⟩) es10 ks10 = true := by kernel_rfl
theorem ok9 : ksOK h0.nn 113 ks10 = true := by kernel_rfl
theorem oe9 : esOK h0.nn ks10 es10 = true := by kernel_rfl
theorem sq9 : isSeq (seqL (rest 9)) = true := by kernel_rfl
theorem st20 : stageX (evC P (mkTy P) ng0 call1 119 100000 roundC [] (sets es20 .leaf) ⟨sets ks20 h0.t, 8712⟩) 0 es21 ks21 = true := by kernel_rfl
theorem ok20 : ksOK h0.nn 8712 ks21 = true := by kernel_rfl
theorem oe20 : esOK h0.nn ks21 es21 = true := by kernel_rfl
theorem st22 : stageB (evC P (mkTy P) ng0 call1 119 100000 (seqL (rest 11)) [] (sets es22 .leaf) ⟨sets ks22 h0.t, 9292⟩) es23 ks23 = true := by kernel_rfl
theorem ok22 : ksOK h0.nn 9451 ks23 = true := by kernel_rfl
theorem oe22 : esOK h0.nn ks23 es23 = true := by kernel_rfl
theorem sq22 : isSeq (rest 11) = true := by kernel_rfl
theorem st23 : stageB (evC P (mkTy P) ng0 call1 119 100000 (seqL (rest 12)) [] (sets es23 .leaf) ⟨sets ks23 h0.t, 9451⟩) es24 ks24 = true := by kernel_rfl
theorem ok23 : ksOK h0.nn 9451 ks24 = true := by kernel_rfl
theorem oe23 : esOK h0.nn ks24 es24 = true := by kernel_rfl
theorem sq23 : isSeq (rest 12) = true := by kernel_rfl
theorem sqL : isSeq (rest 9) = true := by kernel_rfl
theorem enterL : isBLB 0 (seqR (seqL (rest 9))) = true := by kernel_rfl
theorem runL : lastB (evC P (mkTy P) ng0 call1 119 100000 (rest 13) [] (sets es24 .leaf) ⟨sets ks24 h0.t, 9451⟩) (.bool true) = true := by kernel_rfl

end Go.Proofs.YthhcdmmihjhipaaGreatDoor.Cc
