import Derived.Test.YteedncdcbgplfaaGreatDoorL1
import Derived.Test.YteedncdcbgplfaaGreatDoorK8
set_option maxHeartbeats 1000000
namespace Go.Proofs.YteedncdcbgplfaaGreatDoor
open Go.Proofs.Tryz
open Go Go.RowKit
set_option maxRecDepth 100000
theorem azD(p:List SecN)(tp:Tail)(x:Nat)(hx:x<18446744073709551616)(c:Int)(hc: -9223372036854775808≤c∧c≤9223372036854775807):Fn 3 [.agg [adV p tp],.int .u64 (x:Int),.int .i64 c] (.bool true):=by
 intro H;refine .of_body func3 rfl ntmps3 results3 rfl ?_;iterate 8 refine AX ?_
 refine .cl rfl C9 .nil (acM _) ?_;iterate 6 refine AX ?_
 refine .cl rfl C10 (evs1 rfl) (adM p tp _) ?_;iterate 8 refine AX ?_
 refine .seqTo 27 (.bool (!okP p)) [1,2,3,6,7,8] ?_ ?_
 ·iterate 8 refine AX ?_
  exact⟨rfl,zO rfl aD sX,rfl⟩
 refine .sub [(27,_),(1,_),(2,_),(3,_),(6,_),(7,_),(8,_)] sX ?_;refine .cx rfl (λhc27=>?_) (λhc27=>?_)
 ·iterate 9 refine AX ?_
  exact⟨rfl,rfl⟩
 have ra:okP p=true:=by simpa using hc27
 rw[show aoT p=adV p .shared from by unfold aoT;rw[aN ra]];iterate 5 refine AX ?_
 refine .s rfl (zD C11 (evs1 rfl) (aeX c hc _)) ?_;rintro _ _ ⟨⟨l,hlm,rfl⟩,hH⟩;obtain rfl:=hH.symm;have hk:=ajK l hlm;have hs2:=ajX l hlm;have h52:decide ((yV l p x).1=(yV l p x).1)=true:=aQ rfl;have h56:decide ((yV l p x).2=(yV l p x).2)=true:=aQ rfl;iterate 3 refine AX ?_
 refine .al zr32 (λb10 hb10=>?_);refine .al zr34 (λb11 hb11=>?_);have hn10_11:=Heap.ne_of (oS _ _ _) hb11;iterate 4 refine AX ?_
 refine .frz (t:=11) rfl (fS hb11 _) ?_;refine .frz (t:=10) rfl (hb10) ?_;iterate 5 refine AX ?_
 refine .cl rfl C12 (evs3 rfl rfl rfl) (abC p tp (adT ra) x hx l hk hs2 _) ?_;iterate 12 refine AX ?_
 refine .cl rfl call13 (evs3 rfl rfl rfl) (auL p .shared (adT ra) x hx l hk hs2 _) ?_;iterate 22 refine AX ?_
 exact⟨congrArg AV.bool h56,rfl⟩
end Go.Proofs.YteedncdcbgplfaaGreatDoor
