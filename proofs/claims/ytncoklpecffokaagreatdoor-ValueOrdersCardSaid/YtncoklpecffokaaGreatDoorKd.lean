/-
  Digits of 1: what they come to.
-/
import Derived.Test.YtncoklpecffokaaGreatDoorKb
namespace Go.Proofs.YtncoklpecffokaaGreatDoor.Cc
open Go Go.RowKit

set_option maxRecDepth 1000000
theorem sig1 : comes (run0 400 71 [u 4607182418800017408, .int .i64 (.ofNat 15), .int .i64 (.ofNat 1)] h0) (.tuple [.agg [.bool false, .str [49], .int .i64 (.ofNat 0)], .int .i64 (.ofNat 0)]) = true := by kernel_rfl

end Go.Proofs.YtncoklpecffokaaGreatDoor.Cc
