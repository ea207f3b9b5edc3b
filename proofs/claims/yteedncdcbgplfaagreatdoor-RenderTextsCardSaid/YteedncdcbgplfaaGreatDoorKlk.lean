import Derived.Test.YteedncdcbgplfaaGreatDoorL1
set_option maxHeartbeats 1000000
namespace Go.Proofs.YteedncdcbgplfaaGreatDoor
open Go.Proofs.Tryz
open Go Go.RowKit
set_option maxRecDepth 100000
theorem bhZ(p:List SecN)(tp:Tail)(s:List UInt8)(c:Int)(hc: -9223372036854775808≤c∧c≤9223372036854775807):Fn 4 [.agg [adV p tp],.str s,.int .i64 c] (.bool true):=by
 intro H;refine .of_body func4 rfl ntmps4 results4 rfl ?_;iterate 8 refine AX ?_
 refine .cl rfl C9 .nil (acM _) ?_;iterate 6 refine AX ?_
 refine .cl rfl C10 (evs1 rfl) (adM p tp _) ?_;iterate 8 refine AX ?_
 refine .seqTo 32 (.bool (!okP p||decide (1000<(s.length:Int)))) [1,2,3,6,7,8] ?_ ?_
 ·iterate 8 refine AX ?_
  refine zC (t:=28) rfl (λhg28=>?_) (λhg28=>?_)
  ·have hh28:=hg28;try simp only[aL]at hh28
   iterate 5 refine AX ?_
   exact⟨rfl,zO rfl (by(cases hq:okP p<;>simp_all;done)) sX,rfl⟩
  have hh28:=hg28;try simp only[aL]at hh28
  iterate 5 refine AX ?_
  exact⟨rfl,zO rfl (by(cases hq:okP p<;>simp_all;done)) sX,rfl⟩
 refine .sub [(32,_),(1,_),(2,_),(3,_),(6,_),(7,_),(8,_)] sX ?_;refine .cx rfl (λhc32=>?_) (λhc32=>?_)
 ·iterate 9 refine AX ?_
  exact⟨rfl,rfl⟩
 have ra:okP p=true∧s.length≤1000:=by
  rw[cT]at hc32;exact⟨by simpa using hc32.1,by have:=of_decide_eq_false hc32.2;omega⟩
 rw[show aoT p=adV p .shared from by unfold aoT;rw[aN ra.1]];iterate 5 refine AX ?_
 refine .s rfl (zD C11 (evs1 rfl) (aeX c hc _)) ?_;rintro _ _ ⟨⟨l,hlm,rfl⟩,hH⟩;obtain rfl:=hH.symm;have hk:=ajK l hlm;have h55:decide ((aiM l p s).1=(aiM l p s).1)=true:=aQ rfl;have h59:decide ((aiM l p s).2=(aiM l p s).2)=true:=aQ rfl;iterate 3 refine AX ?_
 refine .al zr32 (λb10 hb10=>?_);refine .al zr34 (λb11 hb11=>?_);have hn10_11:=Heap.ne_of (oS _ _ _) hb11;iterate 4 refine AX ?_
 refine .frz (t:=11) rfl (fS hb11 _) ?_;refine .frz (t:=10) rfl (hb10) ?_;iterate 5 refine AX ?_
 refine .cl rfl call14 (evs3 rfl rfl rfl) (apK p tp (adT ra.1) s ra.2 l hk _) ?_;iterate 12 refine AX ?_
 refine .cl rfl call15 (evs3 rfl rfl rfl) (awT p .shared (adT ra.1) s ra.2 l hk _) ?_;iterate 22 refine AX ?_
 exact⟨congrArg AV.bool h59,rfl⟩
end Go.Proofs.YteedncdcbgplfaaGreatDoor
