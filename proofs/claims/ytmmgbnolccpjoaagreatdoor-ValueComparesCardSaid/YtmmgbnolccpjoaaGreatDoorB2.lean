import Derived.Test.YtmmgbnolccpjoaaGreatDoorB1
import Derived.Test.YtmmgbnolccpjoaaGreatDoorV4
namespace Go.Proofs.YtmmgbnolccpjoaaGreatDoor
open Go.Proofs.Tryz
open Go Go.RowKit Go.Lib
variable{c:UInt8}{r:List UInt8}
theorem zZ{s:List UInt8}(h:s.head?≠some c):hasPrefix s (c::r)=false:=by
 unfold hasPrefix;cases s with
 |nil=>rfl
 |cons b t=>
  have:c≠b:=λe=>h (by rw[e];rfl);simp[List.isPrefixOf,this]
theorem asB{c:UInt8}{r:List UInt8}:∀{s:List UInt8},c∉s→index s (c::r)= -1
 | [],_=>rfl
 |b::t,h=>by
  have h1:=zZ (c:=c) (r:=r) (s:=b::t) (λe=>h (by injection e with e;rw[e];simp));have h2:=asB (c:=c) (r:=r) (s:=t) (λq=>h (by simp[q]));unfold hasPrefix at h1;unfold index;rw[h1,h2];rfl
theorem asC{c:UInt8}{r z:List UInt8}:∀{w:List UInt8},c∉w→index (w++(c::r)++z) (c::r)=(w.length:Int)
 | [],_=>by
  show index (c::(r++z)) (c::r)=0;unfold index;rw[aN (by simp[List.isPrefixOf])]
 |b::t,h=>by
  have h1:=zZ (c:=c) (r:=r) (s:=b::(t++(c::r)++z)) (λe=>h (by injection e with e;rw[e];simp));have h2:=asC (c:=c) (r:=r) (z:=z) (w:=t) (λq=>h (by simp[q]));unfold hasPrefix at h1;show index (b::(t++(c::r)++z)) (c::r)=_;unfold index;rw[h1,h2,aL aC];rw[aL (by rw[beq_iff_eq];omega),aX];omega
theorem bqC{old new s:List UInt8}(h:index s old= -1):∀k,replaceK old new k s=s
 |0=>rfl
 |k+1=>by rw[replaceK,aN (by rw[h];rfl)]
theorem atN{old new s:List UInt8}(h:index s old= -1):replaceAll s old new=s:=by
 unfold replaceAll replace;split
 ·rfl
 exact bqC h _
theorem ceK{s:List UInt8}(h:c∉s):cut s (c::r)=(s,[],false):=by
 unfold cut;rw[asB h,aL aC]
theorem ceJ{w z:List UInt8}(h:c∉w):cut (w++(c::r)++z) (c::r)=(w,z,true):=by
 unfold cut;rw[asC h,aJ];have e1:(w++(c::r)++z).take w.length=w:=by rw[aQ,fZ]
 have e2:(w++(c::r)++z).drop (w.length+(c::r).length)=z:=by rw[show w.length+(c::r).length=(w++(c::r)).length by simp];exact cX
 rw[dL,e1,e2]
theorem boK{s:List UInt8}(hd:Digs s)(hc:¬isD c):c∉s:=λh=>hc (hd c h)
theorem byY{s:List UInt8}(hd:Digs s):qU afM s.length s=[]:=(agH s.length s (aV _)).2 hd
structure Loc.fine (l:Loc):Prop where
 dc:∃c,l.dc=[c]∧¬isD c∧c≠69∧c≠101
 grp:∃c r,l.grp=c::r∧¬isD c∧(∀d,l.dc=[d]→c≠d)
 minus:∃c r,l.minus=c::r∧¬isD c∧c≠43∧c≠40∧(c=45→r=[])∧∀z,zQ (decodeL (l.minus++z)).1=false
 cur:∃c r,l.cur=c::r∧¬isD c∧¬isD ((c::r).getD r.length 0)
 pct:l.pct=[37]
theorem notD(h:c.toNat<48∨57<c.toNat):¬isD c:=λq=>by unfold isD at q;omega
theorem ccQ(z:List UInt8):zQ (decodeL (([226,136,146]:List UInt8)++z)).1=false:=by
 have:decodeL (([226,136,146]:List UInt8)++z)=(8722,3):=by
  rw[decodeL_N];simp only[cR,cJ,cI,dG,aX];unfold decodeN;simp
 rw[this];decide
theorem ccR(z:List UInt8):zQ (decodeL (([45]:List UInt8)++z)).1=false:=by
 have:decodeL (([45]:List UInt8)++z)=(45,1):=by rw[decodeL_N];exact decodeN_ascii _ _ _ _ _ (show(45:UInt8).toNat<128 by decide)
 rw[this];decide
theorem bxN:∀l∈locs,l.fine:=by
 intro l hl;simp only[locs,cP,eW,or_false]at hl;rcases hl with rfl|rfl|rfl|rfl|rfl|rfl
 all_goals exact{dc:=⟨_,rfl,notD aC,by decide,by decide⟩,grp:=⟨_,_,rfl,notD aC,λd hd=>by injection hd with hd;subst hd;decide⟩,minus:=⟨_,_,rfl,notD aC,by decide,by decide,by decide,by first|exact ccR|exact ccQ⟩,cur:=⟨_,_,rfl,notD aC,notD aC⟩,pct:=rfl}
theorem bkS(h:isD c):zQ c.toNat=false:=by
 unfold isD at h;unfold zQ;simp only[cC,beq_eq_false_iff_ne];omega
theorem axB{s:List UInt8}(h:s=[]∨zQ (decodeL s).1=false)(f:Nat):qU zQ f s=s:=by
 cases f with
 |zero=>rfl
 |succ f=>
  by_cases h0:s=[]
  ·subst h0;exact abJ _ _
  rcases h with h|h
  ·grind
  rw[agJ _ _ h0,aL (by rw[h];decide)]
theorem auV{p s:List UInt8}(hp:p≠[])(h:p.getD (p.length-1) 0≠s.getD (s.length-1) 0):hasSuffix s p=false:=by
 unfold hasSuffix;rw[Bool.eq_false_iff];intro q;rw[List.isSuffixOf_iff_suffix]at q;obtain⟨t,rfl⟩:=q;apply h;have hl:=bS.2 hp;rw[aR,aR,fE (by rw[aP];omega),aP,show t.length+p.length-1-t.length=p.length-1 by omega]
theorem abZ{a b:List UInt8}(h:b≠[]):(a++b).getD ((a++b).length-1) 0=b.getD (b.length-1) 0:=by
 have hl:=bS.2 h;rw[aR,aR,fE (by rw[aP];omega),aP,show a.length+b.length-1-a.length=b.length-1 by omega]
end Go.Proofs.YtmmgbnolccpjoaaGreatDoor
