/-
  A stage of the head of the laws of needs.
-/
import Derived.Test.YthhcdmmihjhipaaGreatDoorK3
namespace Go.Proofs.YthhcdmmihjhipaaGreatDoor.Cc
open Go Go.RowKit

set_option maxRecDepth 1000000
theorem st18x : stageB (evC P (mkTy P) ng0 call1 119 100000 rX [] (sets es18 .leaf) ⟨sets ks18 h0.t, 5876⟩) es18 ks18 = true := by kernel_rfl
theorem ok18x : ksOK h0.nn 5876 ks18 = true := by kernel_rfl
theorem oe18x : esOK h0.nn ks18 es18 = true := by kernel_rfl
theorem st18r : stageB (evC P (mkTy P) ng0 call1 119 100000 rR [] (sets es18 .leaf) ⟨sets ks18 h0.t, 5876⟩) esr18 ksr18 = true := by kernel_rfl
theorem ok18r : ksOK h0.nn 7264 ksr18 = true := by kernel_rfl
theorem oe18r : esOK h0.nn ksr18 esr18 = true := by kernel_rfl

end Go.Proofs.YthhcdmmihjhipaaGreatDoor.Cc
