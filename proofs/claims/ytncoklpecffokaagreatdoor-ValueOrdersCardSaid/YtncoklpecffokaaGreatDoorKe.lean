/-
  The head of the laws of values: chapter 17's examples hold.
-/
import Derived.Test.YtncoklpecffokaaGreatDoorKc
import Derived.Test.YtncoklpecffokaaGreatDoorKd
namespace Go.Proofs.YtncoklpecffokaaGreatDoor.Cc
open Go Go.RowKit

noncomputable def hs1 : List (Handler P ng0) := [
  Handler.pure 39 [u 4611686018427387904, u 13830554455654793216] (num 4602678819172646912) (pure_of pow1 rfl rfl),
  Handler.pure 39 [u 4616189618054758400, u 4602678819172646912] (num 4611686018427387904) (pure_of pow2 rfl rfl),
  Handler.pure 39 [u 4611686018427387904, u 4599075939470750515] (fail 6) (pure_of pow3 rfl rfl),
  Handler.pure 39 [u 13844065254536904704, u 4602678819172646912] (fail 6) (pure_of pow4 rfl rfl),
  Handler.pure 71 [u 4607182418800017408, .int .i64 (.ofNat 15), .int .i64 (.ofNat 1)] (.tuple [.agg [.bool false, .str [49], .int .i64 (.ofNat 0)], .int .i64 (.ofNat 0)]) (pure_of sig1 rfl rfl)] ++ hs0
set_option maxRecDepth 1000000
theorem head_run : comes (evF P (mkTy P) ng0 (isH hs1) (modH hs1) 400 5 [] h0) (.bool true) = true := by kernel_rfl
/-- The head, over any memory. -/
theorem head (H : Heap) : OCall P ng0 5 [] H (.bool true) H := pure_of head_run rfl rfl H

end Go.Proofs.YtncoklpecffokaaGreatDoor.Cc
