/-
  A stage of the head of the laws of needs.
-/
import Derived.Test.YthhcdmmihjhipaaGreatDoorK3
namespace Go.Proofs.YthhcdmmihjhipaaGreatDoor.Cc
open Go Go.RowKit

set_option maxRecDepth 1000000
theorem st10 : stageB (evC P (mkTy P) ng0 call1 119 100000 roundC [] (sets es10 .leaf) ⟨sets ks10 h0.t, 113⟩) es11 ks11 = true := by kernel_rfl
theorem ok10 : ksOK h0.nn 1070 ks11 = true := by kernel_rfl
theorem oe10 : esOK h0.nn ks11 es11 = true := by kernel_rfl

end Go.Proofs.YthhcdmmihjhipaaGreatDoor.Cc
