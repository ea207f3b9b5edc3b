/-
  A stage of the head of the laws of functions.
-/
import Derived.Test.YtojblnldfdeefaaGreatDoorKdk
namespace Go.Proofs.YtojblnldfdeefaaGreatDoor.Cc
open Go Go.RowKit
set_option maxRecDepth 1000000
theorem st7:stageB (evC P (mkTy P) ng0 call1 231 100000 (seqL (rest 7)) [] (sets es7 .leaf) ⟨sets ks7 h0.t,63⟩) es8 ks8=true:=by kernel_rfl
theorem ok7:ksOK h0.nn 63 ks8=true:=by kernel_rfl
theorem oe7:esOK h0.nn ks8 es8=true:=by kernel_rfl
theorem sq7:isSeq (rest 7)=true:=by kernel_rfl
end Go.Proofs.YtojblnldfdeefaaGreatDoor.Cc
