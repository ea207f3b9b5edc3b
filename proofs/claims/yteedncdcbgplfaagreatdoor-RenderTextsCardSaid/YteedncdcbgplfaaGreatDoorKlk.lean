import Derived.Test.YteedncdcbgplfaaGreatDoorZa
import Derived.Test.YteedncdcbgplfaaGreatDoorL1
set_option maxHeartbeats 1000000
namespace Go.Proofs.YteedncdcbgplfaaGreatDoor
open Go Go.RowKit
set_option maxRecDepth 100000

theorem azR (p : List SecN) (tp : Tail) (s : List UInt8) (c : Int) (hc : -9223372036854775808 ≤ c ∧ c ≤ 9223372036854775807) (H : Heap) : ACall Tryz.prog 4 [.agg [aeK p tp], .str s, .int .i64 c] H (fun y H' => y = .bool true ∧ H' = H) := by
 refine ACall.of_body Tryz.func4 rfl Tryz.ntmps4 Tryz.results4 rfl ?_
 iterate 8 refine AX ?_
 refine .cl rfl C9 .nil (abT _) ?_
 iterate 6 refine AX ?_
 refine .cl rfl C10 (evs1 rfl) (adG p tp _) ?_
 iterate 8 refine AX ?_
 refine AWP.seqTo 32 (.bool (!okP p || decide (1000 < (s.length : Int)))) [1, 2, 3, 6, 7, 8] ?_ ?_
 ·-- region 3
  iterate 8 refine AX ?_
  refine zB (t := 28) rfl (fun hg28 => ?_) (fun hg28 => ?_)
  ·have hh28 := hg28; try simp only [decide_eq_true_eq, decide_eq_false_iff_not, Bool.not_eq_true', Bool.not_eq_false', Int.not_lt, Int.not_le, ne_eq, Decidable.not_not] at hh28
   iterate 5 refine AX ?_
   exact ⟨rfl, zP rfl (by (cases hq : okP p <;> simp_all; done)) sX, rfl⟩
  have hh28 := hg28; try simp only [decide_eq_true_eq, decide_eq_false_iff_not, Bool.not_eq_true', Bool.not_eq_false', Int.not_lt, Int.not_le, ne_eq, Decidable.not_not] at hh28
  iterate 5 refine AX ?_
  exact ⟨rfl, zP rfl (by (cases hq : okP p <;> simp_all; done)) sX, rfl⟩
 refine AWP.sub [(32, _), (1, _), (2, _), (3, _), (6, _), (7, _), (8, _)] sX ?_
 refine AWP.cx rfl (fun hc32 => ?_) (fun hc32 => ?_)
 ·iterate 9 refine AX ?_
  exact ⟨rfl, rfl⟩
 have ra : okP p = true ∧ s.length ≤ 1000 := by
  rw [Bool.or_eq_false_iff] at hc32
  exact ⟨by simpa using hc32.1, by have := of_decide_eq_false hc32.2; omega⟩
 rw [show aoM p = aeK p .shared from by unfold aoM; rw [if_pos ra.1]]
 iterate 5 refine AX ?_
 refine .s rfl (zE C11 (evs1 rfl) (aeL c hc _)) ?_
 rintro _ _ ⟨⟨l, hlm, rfl⟩, hH⟩
 obtain rfl := hH.symm
 have hk := aiR l hlm
 have h55 : decide ((agA l p s).1 = (agA l p s).1) = true := decide_eq_true rfl
 have h59 : decide ((agA l p s).2 = (agA l p s).2) = true := decide_eq_true rfl
 iterate 3 refine AX ?_
 refine .al zr32 (fun b10 hb10 => ?_)
 refine .al zr34 (fun b11 hb11 => ?_)
 have hn10_11 := Heap.ne_of (oS _ _ _) hb11
 iterate 4 refine AX ?_
 refine AWP.frz (t := 11) rfl (fS hb11 _) ?_
 refine AWP.frz (t := 10) rfl (hb10) ?_
 iterate 5 refine AX ?_
 refine .cl rfl Tryz.call14 (evs3 rfl rfl rfl) (akW p tp (adU ra.1) s ra.2 l hk _) ?_
 iterate 12 refine AX ?_
 refine .cl rfl Tryz.call15 (evs3 rfl rfl rfl) (aqS p .shared (adU ra.1) s ra.2 l hk _) ?_
 iterate 22 refine AX ?_
 exact ⟨congrArg AV.bool h59, rfl⟩

end Go.Proofs.YteedncdcbgplfaaGreatDoor
