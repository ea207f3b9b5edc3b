/-
  A stage of the head of the laws of functions.
-/
import Derived.Test.YtojblnldfdeefaaGreatDoorKdk
namespace Go.Proofs.YtojblnldfdeefaaGreatDoor.Cc
open Go Go.RowKit
set_option maxRecDepth 1000000
theorem st9:stageB (evC P (mkTy P) ng0 call1 231 100000 (seqL (rest 9)) [] (sets es9 .leaf) ⟨sets ks9 h0.t,63⟩) es10 ks10=true:=by kernel_rfl
theorem ok9:ksOK h0.nn 63 ks10=true:=by kernel_rfl
theorem oe9:esOK h0.nn ks10 es10=true:=by kernel_rfl
theorem sq9:isSeq (rest 9)=true:=by kernel_rfl
end Go.Proofs.YtojblnldfdeefaaGreatDoor.Cc
