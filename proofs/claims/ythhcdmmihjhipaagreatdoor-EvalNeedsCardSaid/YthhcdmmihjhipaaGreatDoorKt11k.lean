/-
  A stage of the head of the laws of needs.
-/
import Derived.Test.YthhcdmmihjhipaaGreatDoorK3
namespace Go.Proofs.YthhcdmmihjhipaaGreatDoor.Cc
open Go Go.RowKit

set_option maxRecDepth 1000000
theorem st11 : stageB (evC P (mkTy P) ng0 call1 119 100000 roundC [] (sets es11 .leaf) ⟨sets ks11 h0.t, 1070⟩) es12 ks12 = true := by kernel_rfl
theorem ok11 : ksOK h0.nn 1907 ks12 = true := by kernel_rfl
theorem oe11 : esOK h0.nn ks12 es12 = true := by kernel_rfl

end Go.Proofs.YthhcdmmihjhipaaGreatDoor.Cc
