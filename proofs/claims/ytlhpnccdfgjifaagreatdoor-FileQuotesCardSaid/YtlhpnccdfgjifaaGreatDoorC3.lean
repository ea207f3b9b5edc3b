/-
  Pieces of the head: what they come to.
-/
import Derived.Test.YtlhpnccdfgjifaaGreatDoorP2
namespace Go.Proofs.YtlhpnccdfgjifaaGreatDoor.Cc
open Go Go.RowKit

set_option maxRecDepth 1000000
theorem p20 : comes (runM 99880389546124414552192970015286746309569918554752982691075451606660031517985568642291159753518223946884767902857081566267876361838569559633778494007020890592772256 hsP 400 240 [.int .u64 (.ofNat 4596373779694328218)] h0) (.tuple [.agg [.bool false, .str [50, 48, 48, 48, 48, 48, 48, 48, 48, 48, 48, 48, 48, 48, 48, 48, 49, 49, 49, 48, 50, 50, 51, 48, 50, 52, 54, 50, 53, 49, 53, 54, 53, 52, 48, 52, 50, 51, 54, 51, 49, 54, 54, 56, 48, 57, 48, 56, 50, 48, 51, 49, 50, 53], .int .i64 (.negSucc 53)], .int .i64 (.ofNat 0)]) = true := by kernel_rfl

end Go.Proofs.YtlhpnccdfgjifaaGreatDoor.Cc

namespace Go.Proofs.YtlhpnccdfgjifaaGreatDoor.Cc
open Go Go.RowKit

set_option maxRecDepth 1000000
theorem p21 : comes (runM 99880389546124414552192970015286746309569918554752982691075451606660031517985568642291159753518223946884767902857081566267876361838569559633778494007020890592772256 hsP 400 240 [.int .u64 (.ofNat 4591870180066957722)] h0) (.tuple [.agg [.bool false, .str [49, 48, 48, 48, 48, 48, 48, 48, 48, 48, 48, 48, 48, 48, 48, 48, 48, 53, 53, 53, 49, 49, 49, 53, 49, 50, 51, 49, 50, 53, 55, 56, 50, 55, 48, 50, 49, 49, 56, 49, 53, 56, 51, 52, 48, 52, 53, 52, 49, 48, 49, 53, 54, 50, 53], .int .i64 (.negSucc 54)], .int .i64 (.ofNat 0)]) = true := by kernel_rfl

end Go.Proofs.YtlhpnccdfgjifaaGreatDoor.Cc
