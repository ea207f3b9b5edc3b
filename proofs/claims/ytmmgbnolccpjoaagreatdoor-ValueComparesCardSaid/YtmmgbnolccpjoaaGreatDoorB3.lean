import Derived.Test.YtmmgbnolccpjoaaGreatDoorB2
namespace Go.Proofs.YtmmgbnolccpjoaaGreatDoor
open Go.Proofs.Tryz
open Go Go.RowKit
variable{c:UInt8}
section
open Go Go.RowKit Go.Lib
theorem bmL{q s:List UInt8}:replaceAll s (c::q) []=replaceK (c::q) [] (count s (c::q)) s:=by
 unfold replaceAll replace;rw[aL aF];unfold replaceNum;rw[aN (.inl aC)]
theorem baD{q a z:List UInt8}(ha:c∉a):replaceAll (a++(c::q)++z) (c::q) []=a++replaceAll z (c::q) []:=by
 have hi:=asC (c:=c) (r:=q) (z:=z) ha;have hd:(a++(c::q)++z).drop (a.length+(c::q).length)=z:=by rw[show a.length+(c::q).length=(a++(c::q)).length by simp];exact cX
 have ht:(a++(c::q)++z).take a.length=a:=by rw[aQ,fZ]
 rw[bmL,bmL];have hc:count (a++(c::q)++z) (c::q)=count z (c::q)+1:=by
  unfold count;rw[countFrom,aL (by rw[hi,beq_iff_eq];omega),hi,dL,hd,dS 1];congr 1;exact countFrom_fuel aF _ z (by simp only[aP,aX];omega) _ aA
 rw[hc,replaceK_hit _ _ _ _ _ hi,ht,hd,bP]
theorem bmI{q:List UInt8}:replaceAll [] (c::q) []=[]:=atN rfl
theorem bdV{q a s:List UInt8}(ha:c∉a)(hs:s=[]∨∃z,s=(c::q)++z):replaceAll (a++s) (c::q) []=a++replaceAll s (c::q) []:=by
 rcases hs with rfl|⟨z,rfl⟩
 ·rw[bP,bmI,bP];exact atN (asB ha)
 have h2:=baD (c:=c) (q:=q) (a:=[]) (z:=z) aF;rw[cJ,cJ]at h2;rw[←aQ,baD ha,h2]
end
section
open Go Go.RowKit Go.Lib
def Loc.grpOk(l:Loc):Prop:=∀x∈l.grp,x≠69∧x≠101∧l.dc≠[x]
theorem brR:∀l∈locs,l.grpOk:=by
 intro l hl;simp only[locs,cP,eW,or_false]at hl;rcases hl with rfl|rfl|rfl|rfl|rfl|rfl<;>(unfold Loc.grpOk;decide)
end
section
open Go Go.RowKit Go.Lib
structure Loc.moneyOk (l:Loc):Prop where
 ne:l.cur≠[]
 left:∀z,zQ (decodeL (l.cur++z)).1=false
 right:∀z,zQ (decodeLastL (z++l.cur)).1=false
 signs:∀z,hasPrefix (l.cur++z) [40]=false∧hasPrefix (l.cur++z) [43]=false∧hasPrefix (l.cur++z) [45]=false∧hasPrefix (l.cur++z) l.minus=false
theorem abL(r z:List UInt8)(h:c.toNat<128)(hb:zQ c.toNat=false):zQ (decodeL ((c::r)++z)).1=false:=by
 rw[show decodeL ((c::r)++z)=(c.toNat,1) by rw[decodeL_N];exact decodeN_ascii _ _ _ _ _ h];exact hb
theorem aeQ(r z:List UInt8)(h:c.toNat<128)(hb:zQ c.toNat=false):zQ (decodeLastL (z++(r++[c]))).1=false:=by
 have:decodeLastL (z++(r++[c]))=(c.toNat,1):=by
  unfold decodeLastL;rw[aL aF,←aQ,abZ aF,aN (by simpa using h)];rfl
 rw[this];exact hb
theorem alE{b:UInt8}(hb:b=172∨b=185)(z:List UInt8):zQ (decodeL (([226,130,b]:List UInt8)++z)).1=false:=by
 rcases hb with rfl|rfl
 ·have:decodeL (([226,130,172]:List UInt8)++z)=(8364,3):=by
   rw[decodeL_N];simp only[cR,cJ,cI,dG,aX];unfold decodeN;simp
  rw[this];decide
 have:decodeL (([226,130,185]:List UInt8)++z)=(8377,3):=by
  rw[decodeL_N];simp only[cR,cJ,cI,dG,aX];unfold decodeN;simp
 rw[this];decide
theorem amG{b:UInt8}(hb:b=172∨b=185)(z:List UInt8):zQ (decodeLastL (z++[226,130,b])).1=false:=by
 have hst:lastStart (z++[226,130,b])=z.length:=by
  have g2:(z++[226,130,b]).getD ((z++[226,130,b]).length-2) 0=130:=by simp[List.getD,dW]
  have g3:(z++[226,130,b]).getD ((z++[226,130,b]).length-3) 0=226:=by simp[List.getD,dW]
  unfold lastStart;simp only[g2,g3];rw[aL aF,aL aC,aL aF,aN aC];simp
 have e:(z++[226,130,b]).getD ((z++[226,130,b]).length-1) 0=b:=by simp[List.getD,dW]
 have h0:=alE hb [];rw[bP]at h0;have hw:(decodeL [226,130,b]).2=3:=by rcases hb with rfl|rfl<;>decide+kernel
 unfold decodeLastL;rw[aL aF,e,aL (by rcases hb with rfl|rfl<;>decide),hst,cX];simp only;rw[aN (by rw[hw];simp)];exact h0
theorem brQ:∀l∈locs,l.moneyOk:=by
 intro l hl;simp only[locs,cP,eW,or_false]at hl;rcases hl with rfl|rfl|rfl|rfl|rfl|rfl
 ·exact{ne:=by simp,left:=λz=>abL [72,70] z aC aC,right:=λz=>aeQ [67,72] z aC aC,signs:=λz=>⟨zZ aF,zZ aF,zZ aF,zZ aF⟩}
 ·exact{ne:=by simp,left:=alE (.inl rfl),right:=amG (.inl rfl),signs:=λz=>⟨zZ aF,zZ aF,zZ aF,zZ aF⟩}
 ·exact{ne:=by simp,left:=λz=>abL [] z aC aC,right:=λz=>aeQ [] z aC aC,signs:=λz=>⟨zZ aF,zZ aF,zZ aF,zZ aF⟩}
 ·exact{ne:=by simp,left:=alE (.inl rfl),right:=amG (.inl rfl),signs:=λz=>⟨zZ aF,zZ aF,zZ aF,zZ aF⟩}
 ·exact{ne:=by simp,left:=alE (.inr rfl),right:=amG (.inr rfl),signs:=λz=>⟨zZ aF,zZ aF,zZ aF,zZ aF⟩}
 exact{ne:=by simp,left:=λz=>abL [114] z aC aC,right:=λz=>aeQ [107] z aC aC,signs:=λz=>⟨zZ aF,zZ aF,zZ aF,zZ aF⟩}
end
end Go.Proofs.YtmmgbnolccpjoaaGreatDoor
