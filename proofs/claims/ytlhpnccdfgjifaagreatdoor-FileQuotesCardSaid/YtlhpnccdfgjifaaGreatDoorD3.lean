/-
  A file is loaded, in stages.
-/
import Derived.Test.YtlhpnccdfgjifaaGreatDoorD1
namespace Go.Proofs.YtlhpnccdfgjifaaGreatDoor.Cc
open Go Go.RowKit

set_option maxRecDepth 1000000
theorem lst8 : stageB (evRs (runM 99880389546124414552192970015286746309569923719252738864892629868618027628163593618078777131922126188245909268719149224829601328041091729187737586979336350773412000 hs2 399) 79 100000 (loopBodyB (restF 12 4)) 1 (sets les7 .leaf) ⟨sets lks7 h0.t, 2266⟩) les8 lks8 = true := by kernel_rfl
theorem lok8 : ksOK h0.nn 3390 lks8 = true := by kernel_rfl
theorem loe8 : esOK h0.nn lks8 les8 = true := by kernel_rfl

end Go.Proofs.YtlhpnccdfgjifaaGreatDoor.Cc
