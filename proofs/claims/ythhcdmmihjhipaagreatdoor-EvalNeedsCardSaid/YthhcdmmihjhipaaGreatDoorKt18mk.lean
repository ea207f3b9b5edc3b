/-
  A stage of the head of the laws of needs.
-/
import Derived.Test.YthhcdmmihjhipaaGreatDoorK3
namespace Go.Proofs.YthhcdmmihjhipaaGreatDoor.Cc
open Go Go.RowKit

set_option maxRecDepth 1000000
theorem st18m : stageB (evC P (mkTy P) ng0 call1 119 100000 rM [] (sets esr18 .leaf) ⟨sets ksr18 h0.t, 7264⟩) es18 ks19 = true := by kernel_rfl
theorem ok18m : ksOK h0.nn 7817 ks19 = true := by kernel_rfl
theorem oe18m : esOK h0.nn ks19 es18 = true := by kernel_rfl
theorem st18z : stageB (evC P (mkTy P) ng0 call1 119 100000 rZ [] (sets es18 .leaf) ⟨sets ks19 h0.t, 7817⟩) es19 ks19 = true := by kernel_rfl
theorem ok18z : ksOK h0.nn 7817 ks19 = true := by kernel_rfl
theorem oe18z : esOK h0.nn ks19 es19 = true := by kernel_rfl

end Go.Proofs.YthhcdmmihjhipaaGreatDoor.Cc
