/-
  A stage of the head of the laws of needs.
-/
import Derived.Test.YthhcdmmihjhipaaGreatDoorK3
namespace Go.Proofs.YthhcdmmihjhipaaGreatDoor.Cc
open Go Go.RowKit

set_option maxRecDepth 1000000
theorem st19 : stageB (evC P (mkTy P) ng0 call1 119 100000 roundC [] (sets es19 .leaf) ⟨sets ks19 h0.t, 7817⟩) es20 ks20 = true := by kernel_rfl
theorem ok19 : ksOK h0.nn 8712 ks20 = true := by kernel_rfl
theorem oe19 : esOK h0.nn ks20 es20 = true := by kernel_rfl

end Go.Proofs.YthhcdmmihjhipaaGreatDoor.Cc
