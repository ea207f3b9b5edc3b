/-
  A stage of the head of the laws of functions.
-/
import Derived.Test.YtojblnldfdeefaaGreatDoorKdk
namespace Go.Proofs.YtojblnldfdeefaaGreatDoor.Cc
open Go Go.RowKit
set_option maxRecDepth 1000000
theorem st8:stageB (evC P (mkTy P) ng0 call1 231 100000 (seqL (rest 8)) [] (sets es8 .leaf) ⟨sets ks8 h0.t,63⟩) es9 ks9=true:=by kernel_rfl
theorem ok8:ksOK h0.nn 63 ks9=true:=by kernel_rfl
theorem oe8:esOK h0.nn ks9 es9=true:=by kernel_rfl
theorem sq8:isSeq (rest 8)=true:=by kernel_rfl
end Go.Proofs.YtojblnldfdeefaaGreatDoor.Cc
