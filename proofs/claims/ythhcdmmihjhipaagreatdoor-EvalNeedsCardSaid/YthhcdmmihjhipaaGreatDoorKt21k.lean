/-
  A stage of the head of the laws of needs.
-/
import Derived.Test.YthhcdmmihjhipaaGreatDoorK3
namespace Go.Proofs.YthhcdmmihjhipaaGreatDoor.Cc
open Go Go.RowKit

set_option maxRecDepth 1000000
theorem st21 : stageB (evC P (mkTy P) ng0 call1 119 100000 (seqL (rest 10)) [] (sets es21 .leaf) ⟨sets ks21 h0.t, 8712⟩) es22 ks22 = true := by kernel_rfl
theorem ok21 : ksOK h0.nn 9292 ks22 = true := by kernel_rfl
theorem oe21 : esOK h0.nn ks22 es22 = true := by kernel_rfl
theorem sq21 : isSeq (rest 10) = true := by kernel_rfl

end Go.Proofs.YthhcdmmihjhipaaGreatDoor.Cc
