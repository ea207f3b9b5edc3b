/-
  A stage of the head of the laws of needs.
-/
import Derived.Test.YthhcdmmihjhipaaGreatDoorK3
namespace Go.Proofs.YthhcdmmihjhipaaGreatDoor.Cc
open Go Go.RowKit

set_option maxRecDepth 1000000
theorem st13 : stageB (evC P (mkTy P) ng0 call1 119 100000 roundC [] (sets es13 .leaf) ⟨sets ks13 h0.t, 3241⟩) es14 ks14 = true := by kernel_rfl
theorem ok13 : ksOK h0.nn 3544 ks14 = true := by kernel_rfl
theorem oe13 : esOK h0.nn ks14 es14 = true := by kernel_rfl

end Go.Proofs.YthhcdmmihjhipaaGreatDoor.Cc
