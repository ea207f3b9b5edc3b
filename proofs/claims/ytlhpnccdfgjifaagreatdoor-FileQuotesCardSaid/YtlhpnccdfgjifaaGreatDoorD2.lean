/-
  A file is loaded, in stages.
-/
import Derived.Test.YtlhpnccdfgjifaaGreatDoorD1
namespace Go.Proofs.YtlhpnccdfgjifaaGreatDoor.Cc
open Go Go.RowKit

set_option maxRecDepth 1000000
theorem lst0 : stageB (evC P (mkTy P) ng0 (runM 99880389546124414552192970015286746309569923719252738864892629868618027628163593618078777131922126188245909268719149224829601328041091729187737586979336350773412000 hs2 399) 79 100000 (seqL (restF 12 0)) [] (sets les0 .leaf) ⟨sets lks0 h0.t, 1804⟩) les1 lks1 = true := by kernel_rfl
theorem lok0 : ksOK h0.nn 1804 lks1 = true := by kernel_rfl
theorem loe0 : esOK h0.nn lks1 les1 = true := by kernel_rfl
theorem lsq0 : isSeq (restF 12 0) = true := by kernel_rfl
theorem lst1 : stageB (evC P (mkTy P) ng0 (runM 99880389546124414552192970015286746309569923719252738864892629868618027628163593618078777131922126188245909268719149224829601328041091729187737586979336350773412000 hs2 399) 79 100000 (seqL (restF 12 1)) [] (sets les1 .leaf) ⟨sets lks1 h0.t, 1804⟩) les2 lks2 = true := by kernel_rfl
theorem lok1 : ksOK h0.nn 1804 lks2 = true := by kernel_rfl
theorem loe1 : esOK h0.nn lks2 les2 = true := by kernel_rfl
theorem lsq1 : isSeq (restF 12 1) = true := by kernel_rfl
theorem lst2 : stageB (evC P (mkTy P) ng0 (runM 99880389546124414552192970015286746309569923719252738864892629868618027628163593618078777131922126188245909268719149224829601328041091729187737586979336350773412000 hs2 399) 79 100000 (seqL (restF 12 2)) [] (sets les2 .leaf) ⟨sets lks2 h0.t, 1804⟩) les3 lks3 = true := by kernel_rfl
theorem lok2 : ksOK h0.nn 1850 lks3 = true := by kernel_rfl
theorem loe2 : esOK h0.nn lks3 les3 = true := by kernel_rfl
theorem lsq2 : isSeq (restF 12 2) = true := by kernel_rfl
theorem lst3 : stageB (evC P (mkTy P) ng0 (runM 99880389546124414552192970015286746309569923719252738864892629868618027628163593618078777131922126188245909268719149224829601328041091729187737586979336350773412000 hs2 399) 79 100000 (seqL (restF 12 3)) [] (sets les3 .leaf) ⟨sets lks3 h0.t, 1850⟩) les4 lks4 = true := by kernel_rfl
theorem lok3 : ksOK h0.nn 1850 lks4 = true := by kernel_rfl
theorem loe3 : esOK h0.nn lks4 les4 = true := by kernel_rfl
theorem lsq3 : isSeq (restF 12 3) = true := by kernel_rfl
theorem len4 : isBLB 0 (restF 12 4) = true := by kernel_rfl
theorem lst5 : stageB (evRs (runM 99880389546124414552192970015286746309569923719252738864892629868618027628163593618078777131922126188245909268719149224829601328041091729187737586979336350773412000 hs2 399) 79 100000 (loopBodyB (restF 12 4)) 1 (sets les4 .leaf) ⟨sets lks4 h0.t, 1850⟩) les5 lks5 = true := by kernel_rfl
theorem lok5 : ksOK h0.nn 1862 lks5 = true := by kernel_rfl
theorem loe5 : esOK h0.nn lks5 les5 = true := by kernel_rfl
theorem lst6 : stageB (evRs (runM 99880389546124414552192970015286746309569923719252738864892629868618027628163593618078777131922126188245909268719149224829601328041091729187737586979336350773412000 hs2 399) 79 100000 (loopBodyB (restF 12 4)) 1 (sets les5 .leaf) ⟨sets lks5 h0.t, 1862⟩) les6 lks6 = true := by kernel_rfl
theorem lok6 : ksOK h0.nn 2002 lks6 = true := by kernel_rfl
theorem loe6 : esOK h0.nn lks6 les6 = true := by kernel_rfl
theorem lst10 : stageB (evRs (runM 99880389546124414552192970015286746309569923719252738864892629868618027628163593618078777131922126188245909268719149224829601328041091729187737586979336350773412000 hs2 399) 79 100000 (loopBodyB (restF 12 4)) 1 (sets les9 .leaf) ⟨sets lks9 h0.t, 3582⟩) les10 lks10 = true := by kernel_rfl
theorem lok10 : ksOK h0.nn 3709 lks10 = true := by kernel_rfl
theorem loe10 : esOK h0.nn lks10 les10 = true := by kernel_rfl
theorem lrun : lastK (mkTy P) Tryz.f12.results.toList (evC P (mkTy P) ng0 (runM 99880389546124414552192970015286746309569923719252738864892629868618027628163593618078777131922126188245909268719149224829601328041091729187737586979336350773412000 hs2 399) Tryz.f12.ntmps 100000 (loopBodyB (restF 12 4)) [] (sets les11 .leaf) ⟨sets lks11 h0.t, 4329⟩) (.tuple [.ptr 1997 0, .int .i64 (.ofNat 0), .int .i64 (.ofNat 0)]) lks12 = true := by kernel_rfl

end Go.Proofs.YtlhpnccdfgjifaaGreatDoor.Cc

namespace Go.Proofs.YtlhpnccdfgjifaaGreatDoor.Cc
open Go Go.RowKit

set_option maxRecDepth 1000000
theorem lst7 : stageB (evRs (runM 99880389546124414552192970015286746309569923719252738864892629868618027628163593618078777131922126188245909268719149224829601328041091729187737586979336350773412000 hs2 399) 79 100000 (loopBodyB (restF 12 4)) 1 (sets les6 .leaf) ⟨sets lks6 h0.t, 2002⟩) les7 lks7 = true := by kernel_rfl
theorem lok7 : ksOK h0.nn 2266 lks7 = true := by kernel_rfl
theorem loe7 : esOK h0.nn lks7 les7 = true := by kernel_rfl

end Go.Proofs.YtlhpnccdfgjifaaGreatDoor.Cc
