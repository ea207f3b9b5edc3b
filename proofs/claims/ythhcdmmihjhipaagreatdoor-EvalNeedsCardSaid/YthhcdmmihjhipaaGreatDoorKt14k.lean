/-
  A stage of the head of the laws of needs.
-/
import Derived.Test.YthhcdmmihjhipaaGreatDoorK3
namespace Go.Proofs.YthhcdmmihjhipaaGreatDoor.Cc
open Go Go.RowKit

set_option maxRecDepth 1000000
theorem st14 : stageB (evC P (mkTy P) ng0 call1 119 100000 roundC [] (sets es14 .leaf) ⟨sets ks14 h0.t, 3544⟩) es15 ks15 = true := by kernel_rfl
theorem ok14 : ksOK h0.nn 3887 ks15 = true := by kernel_rfl
theorem oe14 : esOK h0.nn ks15 es15 = true := by kernel_rfl

end Go.Proofs.YthhcdmmihjhipaaGreatDoor.Cc
