/-
  A stage of the head of the laws of functions.
-/
import Derived.Test.YtojblnldfdeefaaGreatDoorKdk
namespace Go.Proofs.YtojblnldfdeefaaGreatDoor.Cc
open Go Go.RowKit
set_option maxRecDepth 1000000
theorem st0:stageB (evC P (mkTy P) ng0 call1 231 100000 (seqL (rest 0)) [] (sets es0 .leaf) ⟨sets ks0 h0.t,h0.nn⟩) es1 ks1=true:=by kernel_rfl
theorem ok0:ksOK h0.nn 13 ks1=true:=by kernel_rfl
theorem oe0:esOK h0.nn ks1 es1=true:=by kernel_rfl
theorem sq0:isSeq (rest 0)=true:=by kernel_rfl
theorem st1:stageB (evC P (mkTy P) ng0 call1 231 100000 (seqL (rest 1)) [] (sets es1 .leaf) ⟨sets ks1 h0.t,13⟩) es2 ks2=true:=by kernel_rfl
theorem ok1:ksOK h0.nn 40 ks2=true:=by kernel_rfl
theorem oe1:esOK h0.nn ks2 es2=true:=by kernel_rfl
theorem sq1:isSeq (rest 1)=true:=by kernel_rfl
theorem st2:stageB (evC P (mkTy P) ng0 call1 231 100000 (seqL (rest 2)) [] (sets es2 .leaf) ⟨sets ks2 h0.t,40⟩) es3 ks3=true:=by kernel_rfl
theorem ok2:ksOK h0.nn 63 ks3=true:=by kernel_rfl
theorem oe2:esOK h0.nn ks3 es3=true:=by kernel_rfl
theorem sq2:isSeq (rest 2)=true:=by kernel_rfl
theorem st3:stageB (evC P (mkTy P) ng0 call1 231 100000 (seqL (rest 3)) [] (sets es3 .leaf) ⟨sets ks3 h0.t,63⟩) es4 ks4=true:=by kernel_rfl
theorem ok3:ksOK h0.nn 63 ks4=true:=by kernel_rfl
theorem oe3:esOK h0.nn ks4 es4=true:=by kernel_rfl
theorem sq3:isSeq (rest 3)=true:=by kernel_rfl
theorem runL:lastB (evC P (mkTy P) ng0 call1 231 100000 (rest 10) [] (sets es10 .leaf) ⟨sets ks10 h0.t,63⟩) (.bool true)=true:=by kernel_rfl
end Go.Proofs.YtojblnldfdeefaaGreatDoor.Cc
