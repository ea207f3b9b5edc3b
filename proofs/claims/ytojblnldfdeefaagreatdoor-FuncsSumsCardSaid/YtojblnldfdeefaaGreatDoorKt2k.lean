/-
  A stage of the head of the laws of functions.
-/
import Derived.Test.YtojblnldfdeefaaGreatDoorKdk
namespace Go.Proofs.YtojblnldfdeefaaGreatDoor.Cc
open Go Go.RowKit
set_option maxRecDepth 1000000
theorem st5:stageB (evC P (mkTy P) ng0 call1 231 100000 (seqL (rest 5)) [] (sets es5 .leaf) ⟨sets ks5 h0.t,63⟩) es6 ks6=true:=by kernel_rfl
theorem ok5:ksOK h0.nn 63 ks6=true:=by kernel_rfl
theorem oe5:esOK h0.nn ks6 es6=true:=by kernel_rfl
theorem sq5:isSeq (rest 5)=true:=by kernel_rfl
end Go.Proofs.YtojblnldfdeefaaGreatDoor.Cc
