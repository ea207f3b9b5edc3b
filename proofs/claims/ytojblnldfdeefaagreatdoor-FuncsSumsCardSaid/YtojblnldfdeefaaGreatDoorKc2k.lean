/-
  Pieces of the head of the laws of functions: what they come to.
-/
import Derived.Test.YtojblnldfdeefaaGreatDoorK1
namespace Go.Proofs.YtojblnldfdeefaaGreatDoor.Cc
open Go Go.RowKit
set_option maxRecDepth 1000000
theorem p2:comes (run0 400 86 [u 13832806255468478464,.int .i64 (.ofNat 0),.int .i64 (.ofNat 1)] h0) (.tuple [.agg [.bool true,.str [50],.int .i64 (.ofNat 0)],.int .i64 (.ofNat 0)])=true:=by kernel_rfl
theorem p3:comes (run0 400 86 [u 4653212373585231872,.int .i64 (.negSucc 1),.int .i64 (.ofNat 1)] h0) (.tuple [.agg [.bool false,.str [49,51],.int .i64 (.ofNat 2)],.int .i64 (.ofNat 0)])=true:=by kernel_rfl
end Go.Proofs.YtojblnldfdeefaaGreatDoor.Cc
