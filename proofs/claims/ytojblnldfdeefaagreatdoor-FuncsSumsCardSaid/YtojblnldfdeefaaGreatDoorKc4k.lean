/-
  Pieces of the head of the laws of functions: what they come to.
-/
import Derived.Test.YtojblnldfdeefaaGreatDoorK1
namespace Go.Proofs.YtojblnldfdeefaaGreatDoor.Cc
open Go Go.RowKit
set_option maxRecDepth 1000000
theorem p100:comes (run0 400 368 [.str [50],.str [48,49,50,51,52,53,54,55,56,57]] h0) (.str [])=true:=by kernel_rfl
theorem p101:comes (run0 400 221 [.bool false,.str [50],.int .i64 (.ofNat 0)] h0) (.tuple [.agg [.bool false,.str [50],.int .i64 (.ofNat 0)],.int .i64 (.ofNat 0)])=true:=by kernel_rfl
theorem p102:comes (run0 400 64 [.int .i64 (.ofNat 1)] h0) (.int .u64 (.ofNat 4607182418800017408))=true:=by kernel_rfl
theorem p103:comes (run0 400 64 [.int .i64 (.ofNat 2)] h0) (.int .u64 (.ofNat 4611686018427387904))=true:=by kernel_rfl
theorem p104:comes (run0 400 62 [.int .u64 (.ofNat 4611686018427387904),.int .u64 (.ofNat 4607182418800017408)] h0) (.int .u64 (.ofNat 4611686018427387904))=true:=by kernel_rfl
theorem p105:comes (run0 400 61 [.int .u64 (.ofNat 0),.int .u64 (.ofNat 4607182418800017408)] h0) (.int .u64 (.ofNat 4607182418800017408))=true:=by kernel_rfl
theorem p106:comes (run0 400 61 [.int .u64 (.ofNat 4607182418800017408),.int .u64 (.ofNat 4607182418800017408)] h0) (.int .u64 (.ofNat 4611686018427387904))=true:=by kernel_rfl
theorem p107:comes (run0 400 61 [.int .u64 (.ofNat 4611686018427387904),.int .u64 (.ofNat 4611686018427387904)] h0) (.int .u64 (.ofNat 4616189618054758400))=true:=by kernel_rfl
theorem p108:comes (run0 400 368 [.str [120],.str [48,49,50,51,52,53,54,55,56,57]] h0) (.str [120])=true:=by kernel_rfl
theorem p109:comes (run0 400 72 [.int .u64 (.ofNat 4611686018427387904),.int .i64 (.ofNat 2)] h0) (.tuple [.int .i64 (.ofNat 2),.int .i64 (.ofNat 0)])=true:=by kernel_rfl
theorem p110:comes (run0 400 303 [.agg [.int .u64 (.ofNat 11805916207174113034),.int .u64 (.ofNat 4427218577690292387)],.int .u64 (.ofNat 235)] h0) (.agg [.int .u64 (.ofNat 150),.int .u64 (.ofNat 7378697629483820646),.int .u64 (.ofNat 7378697629483820449)])=true:=by kernel_rfl
theorem p111:comes (run0 400 304 [.agg [.int .u64 (.ofNat 150),.int .u64 (.ofNat 7378697629483820646),.int .u64 (.ofNat 7378697629483820449)],.int .i64 (.negSucc 133)] h0) (.int .u64 (.ofNat 4612474148362177741))=true:=by kernel_rfl
theorem p112:comes (run0 400 304 [.agg [.int .u64 (.ofNat 150),.int .u64 (.ofNat 7378697629483820646),.int .u64 (.ofNat 7378697629483820684)],.int .i64 (.negSucc 133)] h0) (.int .u64 (.ofNat 4612474148362177741))=true:=by kernel_rfl
theorem p113:comes (run0 400 72 [.int .u64 (.ofNat 0),.int .i64 (.ofNat 2)] h0) (.tuple [.int .i64 (.ofNat 0),.int .i64 (.ofNat 0)])=true:=by kernel_rfl
theorem p114:comes (run0 400 72 [.int .u64 (.ofNat 13835058055282163712),.int .i64 (.ofNat 2)] h0) (.tuple [.int .i64 (.negSucc 1),.int .i64 (.ofNat 0)])=true:=by kernel_rfl
theorem p115:comes (run0 400 64 [.int .i64 (.ofNat 10)] h0) (.int .u64 (.ofNat 4621819117588971520))=true:=by kernel_rfl
theorem p116:comes (run0 400 62 [.int .u64 (.ofNat 4607182418800017408),.int .u64 (.ofNat 4621819117588971520)] h0) (.int .u64 (.ofNat 4621819117588971520))=true:=by kernel_rfl
theorem p117:comes (run0 400 62 [.int .u64 (.ofNat 4621819117588971520),.int .u64 (.ofNat 4621819117588971520)] h0) (.int .u64 (.ofNat 4636737291354636288))=true:=by kernel_rfl
theorem p118:comes (run0 400 64 [.int .i64 (.ofNat 13)] h0) (.int .u64 (.ofNat 4623507967449235456))=true:=by kernel_rfl
theorem p119:comes (run0 400 62 [.int .u64 (.ofNat 4623507967449235456),.int .u64 (.ofNat 4636737291354636288)] h0) (.int .u64 (.ofNat 4653432275910787072))=true:=by kernel_rfl
theorem p120:comes (run0 400 35 [.str [73,78,84],.int .u64 (.ofNat 13832806255468478464)] h0) (.agg [.int .i64 (.ofNat 1),.int .u64 (.ofNat 13835058055282163712),.bool false,.str [],.int .i64 (.ofNat 0)])=true:=by kernel_rfl
theorem p121:comes (run0 400 89 [.int .u64 (.ofNat 13842939354630062080),.int .u64 (.ofNat 4613937818241073152)] h0) (.int .u64 (.ofNat 13830554455654793216))=true:=by kernel_rfl
theorem p122:comes (run0 400 61 [.int .u64 (.ofNat 13830554455654793216),.int .u64 (.ofNat 4613937818241073152)] h0) (.int .u64 (.ofNat 4611686018427387904))=true:=by kernel_rfl
theorem p123:comes (run0 400 72 [.int .u64 (.ofNat 4607182418800017408),.int .i64 (.ofNat 2)] h0) (.tuple [.int .i64 (.ofNat 1),.int .i64 (.ofNat 0)])=true:=by kernel_rfl
theorem p124:comes (run0 400 303 [.agg [.int .u64 (.ofNat 14757395258967641292),.int .u64 (.ofNat 14757395258967641292)],.int .u64 (.ofNat 15)] h0) (.agg [.int .u64 (.ofNat 11),.int .u64 (.ofNat 18446744073709551615),.int .u64 (.ofNat 18446744073709551604)])=true:=by kernel_rfl
theorem p125:comes (run0 400 304 [.agg [.int .u64 (.ofNat 11),.int .u64 (.ofNat 18446744073709551615),.int .u64 (.ofNat 18446744073709551604)],.int .i64 (.negSucc 130)] h0) (.int .u64 (.ofNat 4609434218613702656))=true:=by kernel_rfl
theorem p126:comes (run0 400 304 [.agg [.int .u64 (.ofNat 12),.int .u64 (.ofNat 0),.int .u64 (.ofNat 3)],.int .i64 (.negSucc 130)] h0) (.int .u64 (.ofNat 4609434218613702656))=true:=by kernel_rfl
theorem p127:comes (run0 400 72 [.int .u64 (.ofNat 4616189618054758400),.int .i64 (.ofNat 2)] h0) (.tuple [.int .i64 (.ofNat 4),.int .i64 (.ofNat 0)])=true:=by kernel_rfl
theorem p128:comes (run0 400 72 [.int .u64 (.ofNat 4621256167635550208),.int .i64 (.ofNat 2)] h0) (.tuple [.int .i64 (.ofNat 9),.int .i64 (.ofNat 0)])=true:=by kernel_rfl
theorem p129:comes (run0 400 72 [.int .u64 (.ofNat 4613937818241073152),.int .i64 (.ofNat 2)] h0) (.tuple [.int .i64 (.ofNat 3),.int .i64 (.ofNat 0)])=true:=by kernel_rfl
theorem p130:comes (run0 400 174 [.str [98],.str [97,98,99,98],.int .i64 (.ofNat 3)] h0) (.agg [.int .i64 (.ofNat 1),.int .u64 (.ofNat 4616189618054758400),.bool false,.str [],.int .i64 (.ofNat 0)])=true:=by kernel_rfl
theorem p131:comes (run0 400 398 [.agg [.bool false,.str [49,50,51,52,53],.int .i64 (.negSucc 0)],.int .i64 (.ofNat 2)] h0) (.agg [.bool false,.str [49,50,51,52,53],.int .i64 (.negSucc 0)])=true:=by kernel_rfl
theorem p132:comes (run0 400 399 [.agg [.bool false,.str [49,50,51,52,53],.int .i64 (.negSucc 0)],.int .i64 (.ofNat 2)] h0) (.tuple [.str [49,50,51,52],.str [53,48]])=true:=by kernel_rfl
theorem p133:comes (run0 400 61 [.int .u64 (.ofNat 4611686018427387904),.int .u64 (.ofNat 4613937818241073152)] h0) (.int .u64 (.ofNat 4617315517961601024))=true:=by kernel_rfl
theorem p134:comes (run0 400 63 [.int .u64 (.ofNat 4617315517961601024),.int .u64 (.ofNat 4611686018427387904)] h0) (.int .u64 (.ofNat 4612811918334230528))=true:=by kernel_rfl
theorem p135:comes (run0 400 72 [.int .u64 (.ofNat 4617315517961601024),.int .i64 (.ofNat 2)] h0) (.tuple [.int .i64 (.ofNat 5),.int .i64 (.ofNat 0)])=true:=by kernel_rfl
theorem p136:comes (run0 400 72 [.int .u64 (.ofNat 4622945017495814144),.int .i64 (.ofNat 2)] h0) (.tuple [.int .i64 (.ofNat 12),.int .i64 (.ofNat 0)])=true:=by kernel_rfl
theorem p137:comes (run0 400 72 [.int .u64 (.ofNat 4625759767262920704),.int .i64 (.ofNat 2)] h0) (.tuple [.int .i64 (.ofNat 18),.int .i64 (.ofNat 0)])=true:=by kernel_rfl
theorem p138:comes (run0 400 74 [.int .i64 (.ofNat 6)] h0) (.agg [.int .i64 (.ofNat 1),.int .u64 (.ofNat 4618441417868443648),.bool false,.str [],.int .i64 (.ofNat 0)])=true:=by kernel_rfl
end Go.Proofs.YtojblnldfdeefaaGreatDoor.Cc
