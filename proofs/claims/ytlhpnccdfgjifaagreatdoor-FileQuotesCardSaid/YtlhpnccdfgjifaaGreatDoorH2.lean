/-
  The head, in stages.
-/
import Derived.Test.YtlhpnccdfgjifaaGreatDoorH1
namespace Go.Proofs.YtlhpnccdfgjifaaGreatDoor.Cc
open Go Go.RowKit

set_option maxRecDepth 1000000
theorem tst0 : stageB (evC P (mkTy P) ng0 (runM 99880389546124414552192970015286746309569923719252738864892629868618027628163593618078777131922126188245909268719149224829601328041091729187737586979336350773416096 hs3 399) 101 100000 (seqL (restF 4 0)) [] (sets tes0 .leaf) ⟨sets tks0 h0.t, 14⟩) tes1 tks1 = true := by kernel_rfl
theorem tok0 : ksOK h0.nn 14 tks1 = true := by kernel_rfl
theorem toe0 : esOK h0.nn tks1 tes1 = true := by kernel_rfl
theorem tsq0 : isSeq (restF 4 0) = true := by kernel_rfl
theorem tst1 : stageB (evC P (mkTy P) ng0 (runM 99880389546124414552192970015286746309569923719252738864892629868618027628163593618078777131922126188245909268719149224829601328041091729187737586979336350773416096 hs3 399) 101 100000 (seqL (restF 4 1)) [] (sets tes1 .leaf) ⟨sets tks1 h0.t, 14⟩) tes2 tks2 = true := by kernel_rfl
theorem tok1 : ksOK h0.nn 142 tks2 = true := by kernel_rfl
theorem toe1 : esOK h0.nn tks2 tes2 = true := by kernel_rfl
theorem tsq1 : isSeq (restF 4 1) = true := by kernel_rfl
theorem tst2 : stageB (evC P (mkTy P) ng0 (runM 99880389546124414552192970015286746309569923719252738864892629868618027628163593618078777131922126188245909268719149224829601328041091729187737586979336350773416096 hs3 399) 101 100000 (seqL (restF 4 2)) [] (sets tes2 .leaf) ⟨sets tks2 h0.t, 142⟩) tes3 tks3 = true := by kernel_rfl
theorem tok2 : ksOK h0.nn 142 tks3 = true := by kernel_rfl
theorem toe2 : esOK h0.nn tks3 tes3 = true := by kernel_rfl
theorem tsq2 : isSeq (restF 4 2) = true := by kernel_rfl
theorem tst5 : stageB (evC P (mkTy P) ng0 (runM 99880389546124414552192970015286746309569923719252738864892629868618027628163593618078777131922126188245909268719149224829601328041091729187737586979336350773416096 hs3 399) 101 100000 (seqL (restF 4 5)) [] (sets tes5 .leaf) ⟨sets tks5 h0.t, 1460⟩) tes6 tks6 = true := by kernel_rfl
theorem tok5 : ksOK h0.nn 1561 tks6 = true := by kernel_rfl
theorem toe5 : esOK h0.nn tks6 tes6 = true := by kernel_rfl
theorem tsq5 : isSeq (restF 4 5) = true := by kernel_rfl
theorem tst8 : stageB (evC P (mkTy P) ng0 (runM 99880389546124414552192970015286746309569923719252738864892629868618027628163593618078777131922126188245909268719149224829601328041091729187737586979336350773416096 hs3 399) 101 100000 (seqL (restF 4 8)) [] (sets tes8 .leaf) ⟨sets tks8 h0.t, 4345⟩) tes9 tks9 = true := by kernel_rfl
theorem tok8 : ksOK h0.nn 4999 tks9 = true := by kernel_rfl
theorem toe8 : esOK h0.nn tks9 tes9 = true := by kernel_rfl
theorem tsq8 : isSeq (restF 4 8) = true := by kernel_rfl
theorem tst9 : stageB (evC P (mkTy P) ng0 (runM 99880389546124414552192970015286746309569923719252738864892629868618027628163593618078777131922126188245909268719149224829601328041091729187737586979336350773416096 hs3 399) 101 100000 (seqL (restF 4 9)) [] (sets tes9 .leaf) ⟨sets tks9 h0.t, 4999⟩) tes10 tks10 = true := by kernel_rfl
theorem tok9 : ksOK h0.nn 5073 tks10 = true := by kernel_rfl
theorem toe9 : esOK h0.nn tks10 tes10 = true := by kernel_rfl
theorem tsq9 : isSeq (restF 4 9) = true := by kernel_rfl
theorem tst10 : stageB (evC P (mkTy P) ng0 (runM 99880389546124414552192970015286746309569923719252738864892629868618027628163593618078777131922126188245909268719149224829601328041091729187737586979336350773416096 hs3 399) 101 100000 (seqL (restF 4 10)) [] (sets tes10 .leaf) ⟨sets tks10 h0.t, 5073⟩) tes11 tks11 = true := by kernel_rfl
theorem tok10 : ksOK h0.nn 5073 tks11 = true := by kernel_rfl
theorem toe10 : esOK h0.nn tks11 tes11 = true := by kernel_rfl
theorem tsq10 : isSeq (restF 4 10) = true := by kernel_rfl
theorem tst11 : stageB (evC P (mkTy P) ng0 (runM 99880389546124414552192970015286746309569923719252738864892629868618027628163593618078777131922126188245909268719149224829601328041091729187737586979336350773416096 hs3 399) 101 100000 (seqL (restF 4 11)) [] (sets tes11 .leaf) ⟨sets tks11 h0.t, 5073⟩) tes12 tks12 = true := by kernel_rfl
theorem tok11 : ksOK h0.nn 5073 tks12 = true := by kernel_rfl
theorem toe11 : esOK h0.nn tks12 tes12 = true := by kernel_rfl
theorem tsq11 : isSeq (restF 4 11) = true := by kernel_rfl

end Go.Proofs.YtlhpnccdfgjifaaGreatDoor.Cc

namespace Go.Proofs.YtlhpnccdfgjifaaGreatDoor.Cc
open Go Go.RowKit

set_option maxRecDepth 1000000
theorem tst3 : stageB (evC P (mkTy P) ng0 (runM 99880389546124414552192970015286746309569923719252738864892629868618027628163593618078777131922126188245909268719149224829601328041091729187737586979336350773416096 hs3 399) 101 100000 (seqL (restF 4 3)) [] (sets tes3 .leaf) ⟨sets tks3 h0.t, 142⟩) tes4 tks4 = true := by kernel_rfl
theorem tok3 : ksOK h0.nn 307 tks4 = true := by kernel_rfl
theorem toe3 : esOK h0.nn tks4 tes4 = true := by kernel_rfl
theorem tsq3 : isSeq (restF 4 3) = true := by kernel_rfl

end Go.Proofs.YtlhpnccdfgjifaaGreatDoor.Cc
