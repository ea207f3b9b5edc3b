/-
  The head of the laws of entries: chapter 12's examples hold.
-/
import Derived.Test.YtfkeflcdadlmdaaGreatDoorKdk
namespace Go.Proofs.YtfkeflcdadlmdaaGreatDoor.Cc
open Go Go.RowKit

set_option maxRecDepth 1000000
theorem head_run : comes (evF P (mkTy P) ng0 (isH hs2) (modH hs2) 400 8 [] h0) (.bool true) = true := by kernel_rfl
theorem head (H : Heap) : OCall P ng0 8 [] H (.bool true) H := pure_of head_run rfl rfl H

end Go.Proofs.YtfkeflcdadlmdaaGreatDoor.Cc
