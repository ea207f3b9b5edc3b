/-
  Pieces of the head of the laws of functions: what they come to.
-/
import Derived.Test.YtojblnldfdeefaaGreatDoorK1
namespace Go.Proofs.YtojblnldfdeefaaGreatDoor.Cc
open Go Go.RowKit
set_option maxRecDepth 1000000
theorem p4:comes (run0 400 149 [u 4653144203864309760] h0) (.tuple [.agg [.bool false,.str [49,50,51,52,53],.int .i64 (.negSucc 0)],.int .i64 (.ofNat 0)])=true:=by kernel_rfl
theorem p5:comes (run0 400 39 [.int .i64 (.ofNat 5)] h0) (.agg [.int .i64 (.ofNat 1),u 4638144666238189568,.bool false,.str [],.int .i64 (.ofNat 0)])=true:=by kernel_rfl
theorem p6:comes (run0 400 367 [.int .i64 (.negSucc 1)] h0) (.agg [u 11805916207174113034,u 4427218577690292387,.int .i64 (.negSucc 133),.bool false])=true:=by kernel_rfl
theorem p7:comes (run0 400 367 [.int .i64 (.negSucc 0)] h0) (.agg [u 14757395258967641292,u 14757395258967641292,.int .i64 (.negSucc 130),.bool false])=true:=by kernel_rfl
end Go.Proofs.YtojblnldfdeefaaGreatDoor.Cc
