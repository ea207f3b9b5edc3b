/-
  The head, in stages.
-/
import Derived.Test.YtlhpnccdfgjifaaGreatDoorH1
namespace Go.Proofs.YtlhpnccdfgjifaaGreatDoor.Cc
open Go Go.RowKit

set_option maxRecDepth 1000000
theorem tst4 : stageB (evC P (mkTy P) ng0 (runM 99880389546124414552192970015286746309569923719252738864892629868618027628163593618078777131922126188245909268719149224829601328041091729187737586979336350773416096 hs3 399) 101 100000 (seqL (restF 4 4)) [] (sets tes4 .leaf) ⟨sets tks4 h0.t, 307⟩) tes5 tks5 = true := by kernel_rfl
theorem tok4 : ksOK h0.nn 1460 tks5 = true := by kernel_rfl
theorem toe4 : esOK h0.nn tks5 tes5 = true := by kernel_rfl
theorem tsq4 : isSeq (restF 4 4) = true := by kernel_rfl

end Go.Proofs.YtlhpnccdfgjifaaGreatDoor.Cc
