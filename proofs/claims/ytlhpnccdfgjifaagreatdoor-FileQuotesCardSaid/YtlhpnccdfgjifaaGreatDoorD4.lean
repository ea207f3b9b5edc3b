/-
  A file is loaded, in stages.
-/
import Derived.Test.YtlhpnccdfgjifaaGreatDoorD1
namespace Go.Proofs.YtlhpnccdfgjifaaGreatDoor.Cc
open Go Go.RowKit

set_option maxRecDepth 1000000
theorem lst9 : stageB (evRs (runM 99880389546124414552192970015286746309569923719252738864892629868618027628163593618078777131922126188245909268719149224829601328041091729187737586979336350773412000 hs2 399) 79 100000 (loopBodyB (restF 12 4)) 1 (sets les8 .leaf) ⟨sets lks8 h0.t, 3390⟩) les9 lks9 = true := by kernel_rfl
theorem lok9 : ksOK h0.nn 3582 lks9 = true := by kernel_rfl
theorem loe9 : esOK h0.nn lks9 les9 = true := by kernel_rfl

end Go.Proofs.YtlhpnccdfgjifaaGreatDoor.Cc

namespace Go.Proofs.YtlhpnccdfgjifaaGreatDoor.Cc
open Go Go.RowKit

set_option maxRecDepth 1000000
theorem lst11 : stageB (evRs (runM 99880389546124414552192970015286746309569923719252738864892629868618027628163593618078777131922126188245909268719149224829601328041091729187737586979336350773412000 hs2 399) 79 100000 (loopBodyB (restF 12 4)) 1 (sets les10 .leaf) ⟨sets lks10 h0.t, 3709⟩) les11 lks11 = true := by kernel_rfl
theorem lok11 : ksOK h0.nn 4329 lks11 = true := by kernel_rfl
theorem loe11 : esOK h0.nn lks11 les11 = true := by kernel_rfl

end Go.Proofs.YtlhpnccdfgjifaaGreatDoor.Cc
