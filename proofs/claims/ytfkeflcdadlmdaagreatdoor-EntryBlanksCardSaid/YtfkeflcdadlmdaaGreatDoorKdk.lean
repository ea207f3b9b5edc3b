/-
  Pieces of the head of the laws of entries: what they come to.
-/
import Derived.Test.YtfkeflcdadlmdaaGreatDoorK1
namespace Go.Proofs.YtfkeflcdadlmdaaGreatDoor.Cc
open Go Go.RowKit

set_option maxRecDepth 1000000
def i (n : Int) : V := .int .i64 n

theorem p0 : comes (run0 400 199 [i (-1)] h0) (.agg [u 14757395258967641292, u 14757395258967641292, i (-131), .bool false]) = true := by kernel_rfl
theorem p1 : comes (run0 400 114 [i 1] h0) (u 4607182418800017408) = true := by kernel_rfl
theorem p2 : comes (run0 400 114 [i 3] h0) (u 4613937818241073152) = true := by kernel_rfl
theorem p3 : comes (run0 400 114 [i 5] h0) (u 4617315517961601024) = true := by kernel_rfl
theorem p4 : comes (run0 400 114 [i 10] h0) (u 4621819117588971520) = true := by kernel_rfl
theorem p5 : comes (run0 400 115 [u 4617315517961601024, u 4607182418800017408] h0) (u 4617315517961601024) = true := by kernel_rfl
theorem p6 : comes (run0 400 115 [u 4613937818241073152, u 4607182418800017408] h0) (u 4613937818241073152) = true := by kernel_rfl
theorem p7 : comes (run0 400 115 [u 4607182418800017408, u 4621819117588971520] h0) (u 4621819117588971520) = true := by kernel_rfl
theorem p8 : comes (run0 400 115 [u 4621819117588971520, u 4621819117588971520] h0) (u 4636737291354636288) = true := by kernel_rfl
theorem p9 : comes (run0 400 115 [u 4636737291354636288, u 4621819117588971520] h0) (u 4652007308841189376) = true := by kernel_rfl
theorem p10 : comes (run0 400 115 [u 4607182418800017408, u 4652007308841189376] h0) (u 4652007308841189376) = true := by kernel_rfl
theorem p11 : comes (run0 400 153 [.agg [u 3, u 18446744073709551615, u 18446744073709551612], i (-131)] h0) (u 4602678819172646912) = true := by kernel_rfl
theorem p12 : comes (run0 400 153 [.agg [u 4, u 0, u 1], i (-131)] h0) (u 4602678819172646912) = true := by kernel_rfl
theorem p13 : comes (run0 400 153 [.agg [u 9875, u 18446744073709551615, u 18446744073709541740], i (-131)] h0) (u 4653144203864309760) = true := by kernel_rfl
theorem p14 : comes (run0 400 153 [.agg [u 9876, u 0, u 2469], i (-131)] h0) (u 4653144203864309760) = true := by kernel_rfl
noncomputable def hs2 : List (Handler P ng0) := [
  Handler.pure 199 [i (-1)] (.agg [u 14757395258967641292, u 14757395258967641292, i (-131), .bool false]) (pure_of p0 rfl rfl),
  Handler.pure 114 [i 1] (u 4607182418800017408) (pure_of p1 rfl rfl),
  Handler.pure 114 [i 3] (u 4613937818241073152) (pure_of p2 rfl rfl),
  Handler.pure 114 [i 5] (u 4617315517961601024) (pure_of p3 rfl rfl),
  Handler.pure 114 [i 10] (u 4621819117588971520) (pure_of p4 rfl rfl),
  Handler.pure 115 [u 4617315517961601024, u 4607182418800017408] (u 4617315517961601024) (pure_of p5 rfl rfl),
  Handler.pure 115 [u 4613937818241073152, u 4607182418800017408] (u 4613937818241073152) (pure_of p6 rfl rfl),
  Handler.pure 115 [u 4607182418800017408, u 4621819117588971520] (u 4621819117588971520) (pure_of p7 rfl rfl),
  Handler.pure 115 [u 4621819117588971520, u 4621819117588971520] (u 4636737291354636288) (pure_of p8 rfl rfl),
  Handler.pure 115 [u 4636737291354636288, u 4621819117588971520] (u 4652007308841189376) (pure_of p9 rfl rfl),
  Handler.pure 115 [u 4607182418800017408, u 4652007308841189376] (u 4652007308841189376) (pure_of p10 rfl rfl),
  Handler.pure 153 [.agg [u 3, u 18446744073709551615, u 18446744073709551612], i (-131)] (u 4602678819172646912) (pure_of p11 rfl rfl),
  Handler.pure 153 [.agg [u 4, u 0, u 1], i (-131)] (u 4602678819172646912) (pure_of p12 rfl rfl),
  Handler.pure 153 [.agg [u 9875, u 18446744073709551615, u 18446744073709541740], i (-131)] (u 4653144203864309760) (pure_of p13 rfl rfl),
  Handler.pure 153 [.agg [u 9876, u 0, u 2469], i (-131)] (u 4653144203864309760) (pure_of p14 rfl rfl)] ++ hs1

end Go.Proofs.YtfkeflcdadlmdaaGreatDoor.Cc
