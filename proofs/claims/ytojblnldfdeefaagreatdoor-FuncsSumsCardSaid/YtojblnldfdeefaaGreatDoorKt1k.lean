/-
  A stage of the head of the laws of functions.
-/
import Derived.Test.YtojblnldfdeefaaGreatDoorKdk
namespace Go.Proofs.YtojblnldfdeefaaGreatDoor.Cc
open Go Go.RowKit
set_option maxRecDepth 1000000
theorem st4:stageB (evC P (mkTy P) ng0 call1 231 100000 (seqL (rest 4)) [] (sets es4 .leaf) ⟨sets ks4 h0.t,63⟩) es5 ks5=true:=by kernel_rfl
theorem ok4:ksOK h0.nn 63 ks5=true:=by kernel_rfl
theorem oe4:esOK h0.nn ks5 es5=true:=by kernel_rfl
theorem sq4:isSeq (rest 4)=true:=by kernel_rfl
end Go.Proofs.YtojblnldfdeefaaGreatDoor.Cc
