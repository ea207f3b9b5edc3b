/-
  Pieces of the head: what they come to.
-/
import Derived.Test.YtlhpnccdfgjifaaGreatDoorK2
namespace Go.Proofs.YtlhpnccdfgjifaaGreatDoor.Cc
open Go Go.RowKit

set_option maxRecDepth 1000000
theorem p18 : comes (runM 99880389546124414552192970015286746309569918554752982691075450486787660429083463363570019469296084886062019285532314116273325879942633969553305803568274254789214368 hs1 400 401 [.int .i64 (.negSucc 0)] h0) (.agg [.int .u64 (.ofNat 14757395258967641292), .int .u64 (.ofNat 14757395258967641292), .int .i64 (.negSucc 130), .bool false]) = true := by kernel_rfl

end Go.Proofs.YtlhpnccdfgjifaaGreatDoor.Cc

namespace Go.Proofs.YtlhpnccdfgjifaaGreatDoor.Cc
open Go Go.RowKit

set_option maxRecDepth 1000000
theorem p19 : comes (runM 99880389546124414552192970015286746309569918554752982691075450486787660429083463363570019469296084886062019285532314116273325879942633969553305803568274254789214368 hs1 400 240 [.int .u64 (.ofNat 4611686018427387904)] h0) (.tuple [.agg [.bool false, .str [50], .int .i64 (.ofNat 0)], .int .i64 (.ofNat 0)]) = true := by kernel_rfl

end Go.Proofs.YtlhpnccdfgjifaaGreatDoor.Cc
