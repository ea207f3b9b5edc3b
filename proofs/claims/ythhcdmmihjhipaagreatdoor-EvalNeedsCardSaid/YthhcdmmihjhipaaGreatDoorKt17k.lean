/-
  A stage of the head of the laws of needs.
-/
import Derived.Test.YthhcdmmihjhipaaGreatDoorK3
namespace Go.Proofs.YthhcdmmihjhipaaGreatDoor.Cc
open Go Go.RowKit

set_option maxRecDepth 1000000
theorem st17 : stageB (evC P (mkTy P) ng0 call1 119 100000 roundC [] (sets es17 .leaf) ⟨sets ks17 h0.t, 4990⟩) es18 ks18 = true := by kernel_rfl
theorem ok17 : ksOK h0.nn 5876 ks18 = true := by kernel_rfl
theorem oe17 : esOK h0.nn ks18 es18 = true := by kernel_rfl

end Go.Proofs.YthhcdmmihjhipaaGreatDoor.Cc
