import Derived.Test.YteedncdcbgplfaaGreatDoorL1
set_option maxHeartbeats 1000000
namespace Go.Proofs.YteedncdcbgplfaaGreatDoor
open Go.Proofs.Tryz
open Go Go.RowKit
set_option maxRecDepth 100000
theorem azR(p:List SecN)(tp:Tail)(s:List UInt8)(c:Int)(hc: -9223372036854775808≤c∧c≤9223372036854775807):Fn 4 [.agg [aeK p tp],.str s,.int .i64 c] (.bool true):=by
 intro H;refine .of_body func4 rfl ntmps4 results4 rfl ?_;iterate 8 refine AX ?_
 refine .cl rfl C9 .nil (abT _) ?_;iterate 6 refine AX ?_
 refine .cl rfl C10 (evs1 rfl) (adG p tp _) ?_;iterate 8 refine AX ?_
 refine .seqTo 32 (.bool (!okP p||decide (1000<(s.length:Int)))) [1,2,3,6,7,8] ?_ ?_
 ·iterate 8 refine AX ?_
  refine zB (t:=28) rfl (λhg28=>?_) (λhg28=>?_)
  ·have hh28:=hg28;try simp only[aK]at hh28
   iterate 5 refine AX ?_
   exact⟨rfl,zP rfl (by(cases hq:okP p<;>simp_all;done)) sX,rfl⟩
  have hh28:=hg28;try simp only[aK]at hh28
  iterate 5 refine AX ?_
  exact⟨rfl,zP rfl (by(cases hq:okP p<;>simp_all;done)) sX,rfl⟩
 refine .sub [(32,_),(1,_),(2,_),(3,_),(6,_),(7,_),(8,_)] sX ?_;refine .cx rfl (λhc32=>?_) (λhc32=>?_)
 ·iterate 9 refine AX ?_
  exact⟨rfl,rfl⟩
 have ra:okP p=true∧s.length≤1000:=by
  rw[eC]at hc32;exact⟨by simpa using hc32.1,by have:=of_decide_eq_false hc32.2;omega⟩
 rw[show aoM p=aeK p .shared from by unfold aoM;rw[aM ra.1]];iterate 5 refine AX ?_
 refine .s rfl (zE C11 (evs1 rfl) (aeL c hc _)) ?_;rintro _ _ ⟨⟨l,hlm,rfl⟩,hH⟩;obtain rfl:=hH.symm;have hk:=aiR l hlm;have h55:decide ((agA l p s).1=(agA l p s).1)=true:=aP rfl;have h59:decide ((agA l p s).2=(agA l p s).2)=true:=aP rfl;iterate 3 refine AX ?_
 refine .al zr32 (λb10 hb10=>?_);refine .al zr34 (λb11 hb11=>?_);have hn10_11:=Heap.ne_of (oS _ _ _) hb11;iterate 4 refine AX ?_
 refine .frz (t:=11) rfl (fS hb11 _) ?_;refine .frz (t:=10) rfl (hb10) ?_;iterate 5 refine AX ?_
 refine .cl rfl call14 (evs3 rfl rfl rfl) (akW p tp (adU ra.1) s ra.2 l hk _) ?_;iterate 12 refine AX ?_
 refine .cl rfl call15 (evs3 rfl rfl rfl) (aqS p .shared (adU ra.1) s ra.2 l hk _) ?_;iterate 22 refine AX ?_
 exact⟨congrArg AV.bool h59,rfl⟩
end Go.Proofs.YteedncdcbgplfaaGreatDoor
