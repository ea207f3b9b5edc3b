/-
  A stage of the head of the laws of needs.
-/
import Derived.Test.YthhcdmmihjhipaaGreatDoorK3
namespace Go.Proofs.YthhcdmmihjhipaaGreatDoor.Cc
open Go Go.RowKit

set_option maxRecDepth 1000000
theorem st16 : stageB (evC P (mkTy P) ng0 call1 119 100000 roundC [] (sets es16 .leaf) ⟨sets ks16 h0.t, 4301⟩) es17 ks17 = true := by kernel_rfl
theorem ok16 : ksOK h0.nn 4990 ks17 = true := by kernel_rfl
theorem oe16 : esOK h0.nn ks17 es17 = true := by kernel_rfl

end Go.Proofs.YthhcdmmihjhipaaGreatDoor.Cc
