/-
  A stage of the head of the laws of needs.
-/
import Derived.Test.YthhcdmmihjhipaaGreatDoorK3
namespace Go.Proofs.YthhcdmmihjhipaaGreatDoor.Cc
open Go Go.RowKit

set_option maxRecDepth 1000000
theorem st15 : stageB (evC P (mkTy P) ng0 call1 119 100000 roundC [] (sets es15 .leaf) ⟨sets ks15 h0.t, 3887⟩) es16 ks16 = true := by kernel_rfl
theorem ok15 : ksOK h0.nn 4301 ks16 = true := by kernel_rfl
theorem oe15 : esOK h0.nn ks16 es16 = true := by kernel_rfl

end Go.Proofs.YthhcdmmihjhipaaGreatDoor.Cc
