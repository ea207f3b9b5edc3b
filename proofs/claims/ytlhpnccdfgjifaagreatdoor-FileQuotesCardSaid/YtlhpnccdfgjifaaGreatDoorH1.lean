/-
  A file is loaded, in stages.
-/
import Derived.Test.YtlhpnccdfgjifaaGreatDoorD2
import Derived.Test.YtlhpnccdfgjifaaGreatDoorD3
import Derived.Test.YtlhpnccdfgjifaaGreatDoorD4
namespace Go.Proofs.YtlhpnccdfgjifaaGreatDoor.Cc
open Go Go.RowKit

set_option maxRecDepth 1000000
theorem hFile_hk : ksK 1804 4345 lks12 = true := by kernel_rfl
theorem hFile_call (H : Heap) (hH : H.nn = 1804) : OCall P ng0 12 [.str [116, 97, 98, 97, 114, 100, 32, 49, 10, 108, 111, 99, 97, 108, 101, 32, 100, 101, 10, 65, 49, 32, 110, 117, 109, 98, 101, 114, 32, 48, 46, 49, 10, 66, 49, 32, 102, 111, 114, 109, 117, 108, 97, 32, 34, 65, 49, 42, 50, 34, 10, 66, 49, 32, 118, 97, 108, 117, 101, 32, 110, 117, 109, 98, 101, 114, 32, 48, 46, 50, 10, 65, 50, 32, 116, 101, 120, 116, 32, 34, 97, 92, 34, 92, 120, 99, 51, 92, 120, 97, 57, 34, 10, 65, 50, 32, 112, 97, 116, 116, 101, 114, 110, 32, 34, 48, 46, 48, 34, 10, 101, 110, 100, 32, 51, 10]] H (.tuple [.ptr 1997 0, .int .i64 (.ofNat 0), .int .i64 (.ofNat 0)]) ⟨sets lks12 H.t, 4345⟩ := by
  refine callK consts rfl (fn := Tryz.f12) (b := bodyF 12) Tryz.func12 (by kernel_rfl) (by decide) noNG (by kernel_rfl) hFile_hk (by kernel_rfl) (by decide) (by decide) (fun B => ?_) hH
  refine stage_at consts rfl mixed (runM_ok 99880389546124414552192970015286746309569923719252738864892629868618027628163593618078777131922126188245909268719149224829601328041091729187737586979336350773412000 hs2 399) (runM_ext 99880389546124414552192970015286746309569923719252738864892629868618027628163593618078777131922126188245909268719149224829601328041091729187737586979336350773412000 hs2 399) noNG (c := (restF 12 0)) lsq0 lst0 lok0 loe0 ?_
  refine stage_at consts rfl mixed (runM_ok 99880389546124414552192970015286746309569923719252738864892629868618027628163593618078777131922126188245909268719149224829601328041091729187737586979336350773412000 hs2 399) (runM_ext 99880389546124414552192970015286746309569923719252738864892629868618027628163593618078777131922126188245909268719149224829601328041091729187737586979336350773412000 hs2 399) noNG (c := (restF 12 1)) lsq1 lst1 lok1 loe1 ?_
  refine stage_at consts rfl mixed (runM_ok 99880389546124414552192970015286746309569923719252738864892629868618027628163593618078777131922126188245909268719149224829601328041091729187737586979336350773412000 hs2 399) (runM_ext 99880389546124414552192970015286746309569923719252738864892629868618027628163593618078777131922126188245909268719149224829601328041091729187737586979336350773412000 hs2 399) noNG (c := (restF 12 2)) lsq2 lst2 lok2 loe2 ?_
  refine stage_at consts rfl mixed (runM_ok 99880389546124414552192970015286746309569923719252738864892629868618027628163593618078777131922126188245909268719149224829601328041091729187737586979336350773412000 hs2 399) (runM_ext 99880389546124414552192970015286746309569923719252738864892629868618027628163593618078777131922126188245909268719149224829601328041091729187737586979336350773412000 hs2 399) noNG (c := (restF 12 3)) lsq3 lst3 lok3 loe3 ?_
  refine enter_at len4 ?_
  refine stage_rounds (runM_ok 99880389546124414552192970015286746309569923719252738864892629868618027628163593618078777131922126188245909268719149224829601328041091729187737586979336350773412000 hs2 399) (runM_ext 99880389546124414552192970015286746309569923719252738864892629868618027628163593618078777131922126188245909268719149224829601328041091729187737586979336350773412000 hs2 399) lst5 lok5 loe5 ?_
  refine stage_rounds (runM_ok 99880389546124414552192970015286746309569923719252738864892629868618027628163593618078777131922126188245909268719149224829601328041091729187737586979336350773412000 hs2 399) (runM_ext 99880389546124414552192970015286746309569923719252738864892629868618027628163593618078777131922126188245909268719149224829601328041091729187737586979336350773412000 hs2 399) lst6 lok6 loe6 ?_
  refine stage_rounds (runM_ok 99880389546124414552192970015286746309569923719252738864892629868618027628163593618078777131922126188245909268719149224829601328041091729187737586979336350773412000 hs2 399) (runM_ext 99880389546124414552192970015286746309569923719252738864892629868618027628163593618078777131922126188245909268719149224829601328041091729187737586979336350773412000 hs2 399) lst7 lok7 loe7 ?_
  refine stage_rounds (runM_ok 99880389546124414552192970015286746309569923719252738864892629868618027628163593618078777131922126188245909268719149224829601328041091729187737586979336350773412000 hs2 399) (runM_ext 99880389546124414552192970015286746309569923719252738864892629868618027628163593618078777131922126188245909268719149224829601328041091729187737586979336350773412000 hs2 399) lst8 lok8 loe8 ?_
  refine stage_rounds (runM_ok 99880389546124414552192970015286746309569923719252738864892629868618027628163593618078777131922126188245909268719149224829601328041091729187737586979336350773412000 hs2 399) (runM_ext 99880389546124414552192970015286746309569923719252738864892629868618027628163593618078777131922126188245909268719149224829601328041091729187737586979336350773412000 hs2 399) lst9 lok9 loe9 ?_
  refine stage_rounds (runM_ok 99880389546124414552192970015286746309569923719252738864892629868618027628163593618078777131922126188245909268719149224829601328041091729187737586979336350773412000 hs2 399) (runM_ext 99880389546124414552192970015286746309569923719252738864892629868618027628163593618078777131922126188245909268719149224829601328041091729187737586979336350773412000 hs2 399) lst10 lok10 loe10 ?_
  refine stage_rounds (runM_ok 99880389546124414552192970015286746309569923719252738864892629868618027628163593618078777131922126188245909268719149224829601328041091729187737586979336350773412000 hs2 399) (runM_ext 99880389546124414552192970015286746309569923719252738864892629868618027628163593618078777131922126188245909268719149224829601328041091729187737586979336350773412000 hs2 399) lst11 lok11 loe11 ?_
  exact end_loop (runM_ok 99880389546124414552192970015286746309569923719252738864892629868618027628163593618078777131922126188245909268719149224829601328041091729187737586979336350773412000 hs2 399) (runM_ext 99880389546124414552192970015286746309569923719252738864892629868618027628163593618078777131922126188245909268719149224829601328041091729187737586979336350773412000 hs2 399) (fn := Tryz.f12) lrun
noncomputable def hFile : Handler P ng0 := Handler.atNN (h0 := h0) 12 [.str [116, 97, 98, 97, 114, 100, 32, 49, 10, 108, 111, 99, 97, 108, 101, 32, 100, 101, 10, 65, 49, 32, 110, 117, 109, 98, 101, 114, 32, 48, 46, 49, 10, 66, 49, 32, 102, 111, 114, 109, 117, 108, 97, 32, 34, 65, 49, 42, 50, 34, 10, 66, 49, 32, 118, 97, 108, 117, 101, 32, 110, 117, 109, 98, 101, 114, 32, 48, 46, 50, 10, 65, 50, 32, 116, 101, 120, 116, 32, 34, 97, 92, 34, 92, 120, 99, 51, 92, 120, 97, 57, 34, 10, 65, 50, 32, 112, 97, 116, 116, 101, 114, 110, 32, 34, 48, 46, 48, 34, 10, 101, 110, 100, 32, 51, 10]] (.tuple [.ptr 1997 0, .int .i64 (.ofNat 0), .int .i64 (.ofNat 0)]) lks12 1804 4345 (by decide) hFile_hk hFile_call

end Go.Proofs.YtlhpnccdfgjifaaGreatDoor.Cc

namespace Go.Proofs.YtlhpnccdfgjifaaGreatDoor.Cc
open Go Go.RowKit

set_option maxRecDepth 1000000
noncomputable def hs3 : List (Handler P ng0) := hFile :: hs2

end Go.Proofs.YtlhpnccdfgjifaaGreatDoor.Cc

namespace Go.Proofs.YtlhpnccdfgjifaaGreatDoor.Cc
open Go Go.RowKit

set_option maxRecDepth 1000000
def tj0 : O := .cells 3 ([.int .i64 (.ofNat 3)]) true false
def tj1 : O := .cells 214 ([.str [100, 101], .str [44], .str [46], .str [59], .str [45], .str [37], .str [226, 130, 172], .bool false, .bool true, .sl 1 37 0 1, .ptr 61 0]) true false
def tj2 : O := .cells 336 (rz) true false
def tj3 : O := .cells 246 ([.str [100, 101], .str [44], .str [46], .str [59], .str [45], .str [37], .str [226, 130, 172], .bool false, .bool true, .sl 1 37 0 1, .ptr 69 0, .ptr 71 0]) true false
def tj4 : O := .cells 244 ([.ptr 70 0]) true false
def tj5 : O := .cells 271 ([.str [100, 101], .str [44], .str [46], .str [59], .str [45], .str [37], .str [226, 130, 172], .bool false, .bool true, .sl 1 37 0 1, .ptr 83 0]) true false
def tj6 : O := .cells 214 ([.str [100, 101], .str [44], .str [46], .str [59], .str [45], .str [37], .str [226, 130, 172], .bool false, .bool true, .sl 1 37 0 1, .ptr 85 0]) true false
def tj7 : O := .cells 275 ([.ptr 99 0, .ptr 114 0]) true false
def tj8 : O := .cells 271 ([.str [100, 101], .str [44], .str [46], .str [59], .str [45], .str [37], .str [226, 130, 172], .bool false, .bool true, .sl 1 37 0 1, .ptr 105 0]) true false
def tj9 : O := .cells 214 ([.str [100, 101], .str [44], .str [46], .str [59], .str [45], .str [37], .str [226, 130, 172], .bool false, .bool true, .sl 1 37 0 1, .ptr 107 0]) true false
def tj10 : O := .cells 360 ([.str [100, 101], .str [44], .str [46], .str [59], .str [45], .str [37], .str [226, 130, 172], .bool false, .bool true, .sl 1 37 0 1, .ptr 121 0, .ptr 130 0]) true false
def tj11 : O := .cells 271 ([.str [100, 101], .str [44], .str [46], .str [59], .str [45], .str [37], .str [226, 130, 172], .bool false, .bool true, .sl 1 37 0 1, .ptr 127 0]) true false
def tj12 : O := .cells 214 ([.str [100, 101], .str [44], .str [46], .str [59], .str [45], .str [37], .str [226, 130, 172], .bool false, .bool true, .sl 1 37 0 1, .ptr 129 0]) true false
def tj13 : O := .map [] 0
def tj14 : O := .cells 74 ([.str [100, 101], .str [44], .str [46], .str [59], .str [45], .str [37], .str [226, 130, 172], .bool false, .bool true, .sl 1 37 0 1, .ptr 59 0, .ptr 67 0, .ptr 77 0, .ptr 92 0, .map 133, .ptr 141 0, .map 135, .int .i64 (.ofNat 0)]) true false
def tj15 : O := .cells 128 ([.map 140]) true false
def tj16 : O := .cells 336 (putRow (putRow (rz) 2793 [.int .u32 (.ofNat 1)]) 2796 [.int .u64 (.ofNat 14757395258967641292), .int .u64 (.ofNat 14757395258967641292), .int .i64 (.negSucc 130)]) true false
def tj17 : O := .map [((.ofNat 0), 0, .ptr 270 0)] 1
def tj18 : O := .cells 96 ([.int .i64 (.ofNat 1), .int .i64 (.ofNat 1), .int .u64 (.ofNat 4591870180066957722), .bool false, .str [], .int .i64 (.ofNat 0), .int .i64 (.ofNat 0), .int .u64 (.ofNat 0), .str [], .bool false, .int .i64 (.ofNat 0), .int .i64 (.ofNat 0), .int .i64 (.ofNat 0), .bool false, .bool false, .int .i64 (.ofNat 0), .int .i64 (.ofNat 0), .bool false, .bool false, .nilS, .nilp, .int .i64 (.ofNat 1), .int .u64 (.ofNat 4591870180066957722), .bool false, .str [], .int .i64 (.ofNat 0)]) true false
def tj19 : O := .map [((.ofNat 0), 0, .ptr 270 0), ((.ofNat 1), 1, .ptr 1158 0)] 2
def tj20 : O := .cells 74 ([.str [100, 101], .str [44], .str [46], .str [59], .str [45], .str [37], .str [226, 130, 172], .bool false, .bool true, .sl 1 37 0 1, .ptr 59 0, .ptr 67 0, .ptr 77 0, .ptr 92 0, .map 133, .ptr 141 0, .map 135, .int .i64 (.ofNat 1)]) true false
def tj21 : O := .map [((.ofNat 1), 0, .sl 8 1297 0 1)] 1
def tj22 : O := .cells 80 ([.int .i64 (.ofNat 5), .int .u64 (.ofNat 0), .str [], .bool false, .int .i64 (.ofNat 0), .int .i64 (.ofNat 0), .int .i64 (.ofNat 0), .bool false, .bool false, .int .i64 (.ofNat 0), .int .i64 (.ofNat 0), .bool false, .bool false, .nilS, .int .i64 (.ofNat 1), .int .u64 (.ofNat 4611686018427387904), .str [], .bool false, .int .i64 (.ofNat 0), .int .i64 (.ofNat 0), .int .i64 (.ofNat 0), .bool false, .bool false, .int .i64 (.ofNat 0), .int .i64 (.ofNat 0), .bool false, .bool false, .nilS]) true false
def tj23 : O := .cells 96 ([.int .i64 (.ofNat 2), .int .i64 (.ofNat 0), .int .u64 (.ofNat 0), .bool false, .str [], .int .i64 (.ofNat 0), .int .i64 (.ofNat 8), .int .u64 (.ofNat 0), .str [42], .bool false, .int .i64 (.ofNat 0), .int .i64 (.ofNat 0), .int .i64 (.ofNat 0), .bool false, .bool false, .int .i64 (.ofNat 0), .int .i64 (.ofNat 0), .bool false, .bool false, .sl 14 627 0 2, .nilp, .int .i64 (.ofNat 1), .int .u64 (.ofNat 4596373779694328218), .bool false, .str [], .int .i64 (.ofNat 0)]) true false
def tj24 : O := .cells 220 ([.int .i64 (.ofNat 0), .int .i64 (.ofNat 0), .bool false, .bool false, .int .i64 (.ofNat 0), .int .i64 (.ofNat 0), .bool false, .bool false]) false false
def tj25 : O := .map [((.ofNat 0), 0, .ptr 270 0), ((.ofNat 1), 1, .ptr 1158 0), ((.ofNat 64), 2, .ptr 1511 0)] 3
def tj26 : O := .cells 96 ([.int .i64 (.ofNat 1), .int .i64 (.ofNat 3), .int .u64 (.ofNat 0), .bool false, .str [97, 34, 195, 169], .int .i64 (.ofNat 0), .int .i64 (.ofNat 0), .int .u64 (.ofNat 0), .str [], .bool false, .int .i64 (.ofNat 0), .int .i64 (.ofNat 0), .int .i64 (.ofNat 0), .bool false, .bool false, .int .i64 (.ofNat 0), .int .i64 (.ofNat 0), .bool false, .bool false, .nilS, .nilp, .int .i64 (.ofNat 3), .int .u64 (.ofNat 0), .bool false, .str [97, 34, 195, 169], .int .i64 (.ofNat 0)]) true false
def tj27 : O := .cells 96 ([.int .i64 (.ofNat 1), .int .i64 (.ofNat 3), .int .u64 (.ofNat 0), .bool false, .str [97, 34, 195, 169], .int .i64 (.ofNat 0), .int .i64 (.ofNat 0), .int .u64 (.ofNat 0), .str [], .bool false, .int .i64 (.ofNat 0), .int .i64 (.ofNat 0), .int .i64 (.ofNat 0), .bool false, .bool false, .int .i64 (.ofNat 0), .int .i64 (.ofNat 0), .bool false, .bool false, .nilS, .ptr 1803 0, .int .i64 (.ofNat 3), .int .u64 (.ofNat 0), .bool false, .str [97, 34, 195, 169], .int .i64 (.ofNat 0)]) true false
def tj28 : O := .cells 235 ([.sl 2 1708 0 3, .bool false, .int .i64 (.ofNat 0)]) false false
def tj29 : O := .cells 308 ([.int .i64 (.ofNat 2), .str [48], .int .i64 (.ofNat 3), .str [], .int .i64 (.ofNat 2), .str [48]]) false false
def tj30 : O := .cells 90 ([.sl 3 1569 0 1]) true false
def tj31 : O := .cells 214 ([.str [100, 101], .str [44], .str [46], .str [59], .str [45], .str [37], .str [226, 130, 172], .bool false, .bool true, .sl 1 1897 0 1, .ptr 1921 0]) true false
def tj32 : O := .cells 246 ([.str [100, 101], .str [44], .str [46], .str [59], .str [45], .str [37], .str [226, 130, 172], .bool false, .bool true, .sl 1 1897 0 1, .ptr 1929 0, .ptr 1931 0]) true false
def tj33 : O := .cells 244 ([.ptr 1930 0]) true false
def tj34 : O := .cells 271 ([.str [100, 101], .str [44], .str [46], .str [59], .str [45], .str [37], .str [226, 130, 172], .bool false, .bool true, .sl 1 1897 0 1, .ptr 1943 0]) true false
def tj35 : O := .cells 214 ([.str [100, 101], .str [44], .str [46], .str [59], .str [45], .str [37], .str [226, 130, 172], .bool false, .bool true, .sl 1 1897 0 1, .ptr 1945 0]) true false
def tj36 : O := .cells 275 ([.ptr 1959 0, .ptr 1974 0]) true false
def tj37 : O := .cells 271 ([.str [100, 101], .str [44], .str [46], .str [59], .str [45], .str [37], .str [226, 130, 172], .bool false, .bool true, .sl 1 1897 0 1, .ptr 1965 0]) true false
def tj38 : O := .cells 214 ([.str [100, 101], .str [44], .str [46], .str [59], .str [45], .str [37], .str [226, 130, 172], .bool false, .bool true, .sl 1 1897 0 1, .ptr 1967 0]) true false
def tj39 : O := .cells 360 ([.str [100, 101], .str [44], .str [46], .str [59], .str [45], .str [37], .str [226, 130, 172], .bool false, .bool true, .sl 1 1897 0 1, .ptr 1981 0, .ptr 1990 0]) true false
def tj40 : O := .cells 271 ([.str [100, 101], .str [44], .str [46], .str [59], .str [45], .str [37], .str [226, 130, 172], .bool false, .bool true, .sl 1 1897 0 1, .ptr 1987 0]) true false
def tj41 : O := .cells 214 ([.str [100, 101], .str [44], .str [46], .str [59], .str [45], .str [37], .str [226, 130, 172], .bool false, .bool true, .sl 1 1897 0 1, .ptr 1989 0]) true false
def tj42 : O := .map [((.ofNat 0), 0, .ptr 2229 0), ((.ofNat 1), 1, .ptr 3088 0), ((.ofNat 64), 2, .ptr 3659 0)] 3
def tj43 : O := .cells 74 ([.str [100, 101], .str [44], .str [46], .str [59], .str [45], .str [37], .str [226, 130, 172], .bool false, .bool true, .sl 1 1897 0 1, .ptr 1919 0, .ptr 1927 0, .ptr 1937 0, .ptr 1952 0, .map 1993, .ptr 2001 0, .map 1995, .int .i64 (.ofNat 0)]) true false
def tj44 : O := .map [((.ofNat 1), 0, .sl 8 3227 0 1)] 1
def tj45 : O := .cells 128 ([.map 2000]) true false
def tj46 : O := .cells 96 ([.int .i64 (.ofNat 2), .int .i64 (.ofNat 0), .int .u64 (.ofNat 0), .bool false, .str [], .int .i64 (.ofNat 0), .int .i64 (.ofNat 8), .int .u64 (.ofNat 0), .str [42], .bool false, .int .i64 (.ofNat 0), .int .i64 (.ofNat 0), .int .i64 (.ofNat 0), .bool false, .bool false, .int .i64 (.ofNat 0), .int .i64 (.ofNat 0), .bool false, .bool false, .sl 14 2609 0 2, .nilp, .int .i64 (.ofNat 1), .int .u64 (.ofNat 4596373779694328218), .bool false, .str [], .int .i64 (.ofNat 0)]) true false
def tj47 : O := .cells 96 ([.int .i64 (.ofNat 1), .int .i64 (.ofNat 3), .int .u64 (.ofNat 0), .bool false, .str [97, 34, 195, 169], .int .i64 (.ofNat 0), .int .i64 (.ofNat 0), .int .u64 (.ofNat 0), .str [], .bool false, .int .i64 (.ofNat 0), .int .i64 (.ofNat 0), .int .i64 (.ofNat 0), .bool false, .bool false, .int .i64 (.ofNat 0), .int .i64 (.ofNat 0), .bool false, .bool false, .nilS, .ptr 4328 0, .int .i64 (.ofNat 3), .int .u64 (.ofNat 0), .bool false, .str [97, 34, 195, 169], .int .i64 (.ofNat 0)]) true false
def tj48 : O := .cells 235 ([.sl 2 4233 0 3, .bool false, .int .i64 (.ofNat 0)]) false false
def tj49 : O := .cells 90 ([.sl 3 4094 0 1]) true false
def tks0 : List (Nat × O) := []
def tes0 : List (Nat × V) := []
def tks1 : List (Nat × O) := []
def tes1 : List (Nat × V) := []
def tks2 : List (Nat × O) := [(37, tj0), (59, tj1), (61, tj2), (67, tj3), (69, tj2), (70, tj2), (71, tj4), (77, tj5), (83, tj6), (85, tj2), (92, tj7), (99, tj8), (105, tj9), (107, tj2), (114, tj10), (121, tj11), (127, tj12), (129, tj2), (130, tj2), (133, tj13), (135, tj13), (137, tj14), (140, tj13), (141, tj15)]
def tes2 : List (Nat × V) := [(1, .ptr 137 0), (2, .int .i64 (.ofNat 0))]
def tks3 : List (Nat × O) := [(37, tj0), (59, tj1), (61, tj2), (67, tj3), (69, tj2), (70, tj2), (71, tj4), (77, tj5), (83, tj6), (85, tj2), (92, tj7), (99, tj8), (105, tj9), (107, tj2), (114, tj10), (121, tj11), (127, tj12), (129, tj2), (130, tj2), (133, tj13), (135, tj13), (137, tj14), (140, tj13), (141, tj15)]
def tes3 : List (Nat × V) := [(1, .ptr 137 0)]
def tks4 : List (Nat × O) := [(37, tj0), (59, tj1), (61, tj16), (67, tj3), (69, tj2), (70, tj2), (71, tj4), (77, tj5), (83, tj6), (85, tj2), (92, tj7), (99, tj8), (105, tj9), (107, tj2), (114, tj10), (121, tj11), (127, tj12), (129, tj2), (130, tj2), (133, tj17), (135, tj13), (137, tj14), (140, tj13), (141, tj15), (270, tj18)]
def tes4 : List (Nat × V) := [(1, .ptr 137 0)]
def tks5 : List (Nat × O) := [(37, tj0), (59, tj1), (61, tj16), (67, tj3), (69, tj2), (70, tj2), (71, tj4), (77, tj5), (83, tj6), (85, tj2), (92, tj7), (99, tj8), (105, tj9), (107, tj2), (114, tj10), (121, tj11), (127, tj12), (129, tj2), (130, tj2), (133, tj19), (135, tj13), (137, tj20), (140, tj21), (141, tj15), (270, tj18), (627, tj22), (1158, tj23), (1297, tj24)]
def tes5 : List (Nat × V) := [(1, .ptr 137 0)]
def tks6 : List (Nat × O) := [(37, tj0), (59, tj1), (61, tj16), (67, tj3), (69, tj2), (70, tj2), (71, tj4), (77, tj5), (83, tj6), (85, tj2), (92, tj7), (99, tj8), (105, tj9), (107, tj2), (114, tj10), (121, tj11), (127, tj12), (129, tj2), (130, tj2), (133, tj25), (135, tj13), (137, tj14), (140, tj21), (141, tj15), (270, tj18), (627, tj22), (1158, tj23), (1297, tj24), (1511, tj26)]
def tes6 : List (Nat × V) := [(1, .ptr 137 0)]
def tks7 : List (Nat × O) := [(37, tj0), (59, tj1), (61, tj16), (67, tj3), (69, tj2), (70, tj2), (71, tj4), (77, tj5), (83, tj6), (85, tj2), (92, tj7), (99, tj8), (105, tj9), (107, tj2), (114, tj10), (121, tj11), (127, tj12), (129, tj2), (130, tj2), (133, tj25), (135, tj13), (137, tj14), (140, tj21), (141, tj15), (270, tj18), (627, tj22), (1158, tj23), (1297, tj24), (1511, tj27), (1569, tj28), (1708, tj29), (1803, tj30)]
def tes7 : List (Nat × V) := [(1, .ptr 137 0)]
def tks8 : List (Nat × O) := [(37, tj0), (59, tj1), (61, tj16), (67, tj3), (69, tj2), (70, tj2), (71, tj4), (77, tj5), (83, tj6), (85, tj2), (92, tj7), (99, tj8), (105, tj9), (107, tj2), (114, tj10), (121, tj11), (127, tj12), (129, tj2), (130, tj2), (133, tj25), (135, tj13), (137, tj14), (140, tj21), (141, tj15), (270, tj18), (627, tj22), (1158, tj23), (1297, tj24), (1511, tj27), (1569, tj28), (1708, tj29), (1803, tj30), (1897, tj0), (1919, tj31), (1921, tj2), (1927, tj32), (1929, tj2), (1930, tj2), (1931, tj33), (1937, tj34), (1943, tj35), (1945, tj2), (1952, tj36), (1959, tj37), (1965, tj38), (1967, tj2), (1974, tj39), (1981, tj40), (1987, tj41), (1989, tj2), (1990, tj2), (1993, tj42), (1995, tj13), (1997, tj43), (2000, tj44), (2001, tj45), (2229, tj18), (2609, tj22), (3088, tj46), (3227, tj24), (3659, tj47), (4094, tj48), (4233, tj29), (4328, tj49)]
def tes8 : List (Nat × V) := [(1, .ptr 137 0), (3, .ptr 1997 0), (4, .int .i64 (.ofNat 0)), (5, .int .i64 (.ofNat 0))]
def tks9 : List (Nat × O) := [(1897, tj0), (1919, tj31), (1921, tj2), (1927, tj32), (1929, tj2), (1930, tj2), (1931, tj33), (1937, tj34), (1943, tj35), (1945, tj2), (1952, tj36), (1959, tj37), (1965, tj38), (1967, tj2), (1974, tj39), (1981, tj40), (1987, tj41), (1989, tj2), (1990, tj2), (1993, tj42), (1995, tj13), (1997, tj43), (2000, tj44), (2001, tj45), (2229, tj18), (2609, tj22), (3088, tj46), (3227, tj24), (3659, tj47), (4094, tj48), (4233, tj29), (4328, tj49)]
def tes9 : List (Nat × V) := [(3, .ptr 1997 0)]
def tks10 : List (Nat × O) := [(1897, tj0), (1919, tj31), (1921, tj2), (1927, tj32), (1929, tj2), (1930, tj2), (1931, tj33), (1937, tj34), (1943, tj35), (1945, tj2), (1952, tj36), (1959, tj37), (1965, tj38), (1967, tj2), (1974, tj39), (1981, tj40), (1987, tj41), (1989, tj2), (1990, tj2), (1993, tj42), (1995, tj13), (1997, tj43), (2000, tj44), (2001, tj45), (2229, tj18), (2609, tj22), (3088, tj46), (3227, tj24), (3659, tj47), (4094, tj48), (4233, tj29), (4328, tj49)]
def tes10 : List (Nat × V) := [(3, .ptr 1997 0), (6, .nilp), (7, .int .i64 (.ofNat 8)), (8, .int .i64 (.ofNat 2))]
def tks11 : List (Nat × O) := [(1897, tj0), (1919, tj31), (1921, tj2), (1927, tj32), (1929, tj2), (1930, tj2), (1931, tj33), (1937, tj34), (1943, tj35), (1945, tj2), (1952, tj36), (1959, tj37), (1965, tj38), (1967, tj2), (1974, tj39), (1981, tj40), (1987, tj41), (1989, tj2), (1990, tj2), (1993, tj42), (1995, tj13), (1997, tj43), (2000, tj44), (2001, tj45), (2229, tj18), (2609, tj22), (3088, tj46), (3227, tj24), (3659, tj47), (4094, tj48), (4233, tj29), (4328, tj49)]
def tes11 : List (Nat × V) := [(3, .ptr 1997 0), (6, .nilp), (7, .int .i64 (.ofNat 8)), (8, .int .i64 (.ofNat 2)), (9, .str [97, 0]), (10, .bool true)]
def tks12 : List (Nat × O) := [(1897, tj0), (1919, tj31), (1921, tj2), (1927, tj32), (1929, tj2), (1930, tj2), (1931, tj33), (1937, tj34), (1943, tj35), (1945, tj2), (1952, tj36), (1959, tj37), (1965, tj38), (1967, tj2), (1974, tj39), (1981, tj40), (1987, tj41), (1989, tj2), (1990, tj2), (1993, tj42), (1995, tj13), (1997, tj43), (2000, tj44), (2001, tj45), (2229, tj18), (2609, tj22), (3088, tj46), (3227, tj24), (3659, tj47), (4094, tj48), (4233, tj29), (4328, tj49)]
def tes12 : List (Nat × V) := [(3, .ptr 1997 0), (6, .nilp), (7, .int .i64 (.ofNat 8)), (8, .int .i64 (.ofNat 2)), (9, .str [97, 0]), (10, .bool true), (12, .bool false)]

end Go.Proofs.YtlhpnccdfgjifaaGreatDoor.Cc
