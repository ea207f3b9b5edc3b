/-
  The head, in stages.
-/
import Derived.Test.YtlhpnccdfgjifaaGreatDoorH1
namespace Go.Proofs.YtlhpnccdfgjifaaGreatDoor.Cc
open Go Go.RowKit

set_option maxRecDepth 1000000
theorem tst6 : stageB (evC P (mkTy P) ng0 (runM 99880389546124414552192970015286746309569923719252738864892629868618027628163593618078777131922126188245909268719149224829601328041091729187737586979336350773416096 hs3 399) 101 100000 (seqL (restF 4 6)) [] (sets tes6 .leaf) ⟨sets tks6 h0.t, 1561⟩) tes7 tks7 = true := by kernel_rfl
theorem tok6 : ksOK h0.nn 1804 tks7 = true := by kernel_rfl
theorem toe6 : esOK h0.nn tks7 tes7 = true := by kernel_rfl
theorem tsq6 : isSeq (restF 4 6) = true := by kernel_rfl

end Go.Proofs.YtlhpnccdfgjifaaGreatDoor.Cc

namespace Go.Proofs.YtlhpnccdfgjifaaGreatDoor.Cc
open Go Go.RowKit

set_option maxRecDepth 1000000
theorem tst7 : stageB (evC P (mkTy P) ng0 (runM 99880389546124414552192970015286746309569923719252738864892629868618027628163593618078777131922126188245909268719149224829601328041091729187737586979336350773416096 hs3 399) 101 100000 (seqL (restF 4 7)) [] (sets tes7 .leaf) ⟨sets tks7 h0.t, 1804⟩) tes8 tks8 = true := by kernel_rfl
theorem tok7 : ksOK h0.nn 4345 tks8 = true := by kernel_rfl
theorem toe7 : esOK h0.nn tks8 tes8 = true := by kernel_rfl
theorem tsq7 : isSeq (restF 4 7) = true := by kernel_rfl

end Go.Proofs.YtlhpnccdfgjifaaGreatDoor.Cc

namespace Go.Proofs.YtlhpnccdfgjifaaGreatDoor.Cc
open Go Go.RowKit

set_option maxRecDepth 1000000
theorem trun : lastB (evC P (mkTy P) ng0 (runM 99880389546124414552192970015286746309569923719252738864892629868618027628163593618078777131922126188245909268719149224829601328041091729187737586979336350773416096 hs3 399) 101 100000 (restF 4 12) [] (sets tes12 .leaf) ⟨sets tks12 h0.t, 5073⟩) (.bool true) = true := by kernel_rfl

end Go.Proofs.YtlhpnccdfgjifaaGreatDoor.Cc
