/-
  A stage of the head of the laws of functions.
-/
import Derived.Test.YtojblnldfdeefaaGreatDoorKdk
namespace Go.Proofs.YtojblnldfdeefaaGreatDoor.Cc
open Go Go.RowKit
set_option maxRecDepth 1000000
theorem st6:stageB (evC P (mkTy P) ng0 call1 231 100000 (seqL (rest 6)) [] (sets es6 .leaf) ⟨sets ks6 h0.t,63⟩) es7 ks7=true:=by kernel_rfl
theorem ok6:ksOK h0.nn 63 ks7=true:=by kernel_rfl
theorem oe6:esOK h0.nn ks7 es7=true:=by kernel_rfl
theorem sq6:isSeq (rest 6)=true:=by kernel_rfl
end Go.Proofs.YtojblnldfdeefaaGreatDoor.Cc
