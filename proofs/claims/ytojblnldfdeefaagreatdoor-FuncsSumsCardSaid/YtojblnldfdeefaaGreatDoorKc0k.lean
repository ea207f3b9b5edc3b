/-
  Pieces of the head of the laws of functions: what they come to.
-/
import Derived.Test.YtojblnldfdeefaaGreatDoorK1
namespace Go.Proofs.YtojblnldfdeefaaGreatDoor.Cc
open Go Go.RowKit
set_option maxRecDepth 1000000
theorem p0:comes (run0 400 86 [u 13833121507442394399,.int .i64 (.ofNat 1),.int .i64 (.ofNat 2)] h0) (.tuple [.agg [.bool true,.str [49,53],.int .i64 (.negSucc 0)],.int .i64 (.ofNat 0)])=true:=by kernel_rfl
end Go.Proofs.YtojblnldfdeefaaGreatDoor.Cc
