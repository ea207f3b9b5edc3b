/-
  A stage of the head of the laws of needs.
-/
import Derived.Test.YthhcdmmihjhipaaGreatDoorK3
namespace Go.Proofs.YthhcdmmihjhipaaGreatDoor.Cc
open Go Go.RowKit

set_option maxRecDepth 1000000
theorem st12 : stageB (evC P (mkTy P) ng0 call1 119 100000 roundC [] (sets es12 .leaf) ⟨sets ks12 h0.t, 1907⟩) es13 ks13 = true := by kernel_rfl
theorem ok12 : ksOK h0.nn 3241 ks13 = true := by kernel_rfl
theorem oe12 : esOK h0.nn ks13 es13 = true := by kernel_rfl

end Go.Proofs.YthhcdmmihjhipaaGreatDoor.Cc
