/-
  Powers of numbers: what each of the heads' own comes to.
-/
import Derived.Test.YtncoklpecffokaaGreatDoorKb
namespace Go.Proofs.YtncoklpecffokaaGreatDoor.Cc
open Go Go.RowKit

set_option maxRecDepth 1000000
theorem pow1 : comes (run0 400 39 [u 4611686018427387904, u 13830554455654793216] h0) (num 4602678819172646912) = true := by kernel_rfl
theorem pow2 : comes (run0 400 39 [u 4616189618054758400, u 4602678819172646912] h0) (num 4611686018427387904) = true := by kernel_rfl
theorem pow3 : comes (run0 400 39 [u 4611686018427387904, u 4599075939470750515] h0) (fail 6) = true := by kernel_rfl
theorem pow4 : comes (run0 400 39 [u 13844065254536904704, u 4602678819172646912] h0) (fail 6) = true := by kernel_rfl

end Go.Proofs.YtncoklpecffokaaGreatDoor.Cc
