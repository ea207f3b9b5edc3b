import Derived.Test.YteedncdcbgplfaaGreatDoorU2
import Derived.Test.YteedncdcbgplfaaGreatDoorB1
namespace Go.Proofs.YteedncdcbgplfaaGreatDoor
open Go.Proofs.Tryz
open Go Go.RowKit Go.Lib
variable{c:UInt8}{a b d r t w:List UInt8}
theorem ahR{s:List UInt8}(h:s.head?≠some c):hasPrefix s (c::r)=false:=by
 unfold hasPrefix;cases s with
 |nil=>rfl
 |cons b t=>
  have:c≠b:=λe=>h (by rw[e];rfl);simp[List.isPrefixOf,this]
theorem akA{c:UInt8}{r:List UInt8}:∀{s:List UInt8},c∉s→index s (c::r)= -1
 | [],_=>rfl
 |b::t,h=>by
  have h1:=ahR (c:=c) (r:=r) (s:=b::t) (λe=>h (by injection e with e;rw[e];simp));have h2:=akA (c:=c) (r:=r) (s:=t) (λq=>h (by simp[q]));unfold hasPrefix at h1;unfold index;rw[h1,h2];rfl
theorem ayS{c:UInt8}{r z:List UInt8}:∀{w:List UInt8},c∉w→index (w++(c::r)++z) (c::r)=(w.length:Int)
 | [],_=>by
  show index (c::(r++z)) (c::r)=0;unfold index;rw[aN (by simp[List.isPrefixOf])]
 |b::t,h=>by
  have h1:=ahR (c:=c) (r:=r) (s:=b::(t++(c::r)++z)) (λe=>h (by injection e with e;rw[e];simp));have h2:=ayS (c:=c) (r:=r) (z:=z) (w:=t) (λq=>h (by simp[q]));unfold hasPrefix at h1;show index (b::(t++(c::r)++z)) (c::r)=_;unfold index;rw[h1,h2,aM aC];rw[aM (by rw[beq_iff_eq];omega),aW];omega
theorem bmI{old new s:List UInt8}(h:index s old= -1):∀k,replaceK old new k s=s
 |0=>rfl
 |k+1=>by rw[replaceK,aN (by rw[h];rfl)]
theorem amC{old new s:List UInt8}(h:index s old= -1):replaceAll s old new=s:=by
 unfold replaceAll replace;split
 ·rfl
 exact bmI h _
theorem cbU{s:List UInt8}(h:(69:UInt8)∉s)(h2:(101:UInt8)∉s):eAt s= -1:=by
 unfold eAt;rw[amC (akA h),←index_one,akA h2]
theorem bwI{s:List UInt8}(h:c∉s):cut s (c::r)=(s,[],false):=by
 unfold cut;rw[akA h,aM aC]
theorem ccI{z:List UInt8}(h:c∉w):cut (w++(c::r)++z) (c::r)=(w,z,true):=by
 unfold cut;rw[ayS h,aK];have e1:(w++(c::r)++z).take w.length=w:=by rw[bK,List.take_left]
 have e2:(w++(c::r)++z).drop (w.length+(c::r).length)=z:=by rw[show w.length+(c::r).length=(w++(c::r)).length by simp];exact List.drop_left
 rw[dZ,e1,e2]
theorem aeY{s:List UInt8}(hd:Digs s)(hc:¬isD c):c∉s:=λh=>hc (hd c h)
theorem bvY{s:List UInt8}(hd:Digs s):aaV aeQ s.length s=[]:=(afJ s.length s (aZ _)).2 hd
structure Loc.fine (l:Loc):Prop where
 dc:∃c,l.dc=[c]∧¬isD c∧c≠69∧c≠101
 grp:∃c r,l.grp=c::r∧¬isD c∧(∀d,l.dc=[d]→c≠d)
 minus:∃c r,l.minus=c::r∧¬isD c∧c≠43∧c≠40∧(c=45→r=[])∧∀z,yP (decodeL (l.minus++z)).1=false
 cur:∃c r,l.cur=c::r∧¬isD c∧¬isD ((c::r).getD r.length 0)
 pct:l.pct=[37]
theorem notD(h:c.toNat<48∨57<c.toNat):¬isD c:=λq=>by unfold isD at q;omega
theorem caL(z:List UInt8):yP (decodeL (([226,136,146]:List UInt8)++z)).1=false:=by
 have:decodeL (([226,136,146]:List UInt8)++z)=(8722,3):=by
  rw[decodeL_N];simp only[eE,cH,eP,dF,aW];unfold decodeN;simp
 rw[this];decide
theorem caM(z:List UInt8):yP (decodeL (([45]:List UInt8)++z)).1=false:=by
 have:decodeL (([45]:List UInt8)++z)=(45,1):=by rw[decodeL_N];exact decodeN_ascii _ _ _ _ _ (show(45:UInt8).toNat<128 by decide)
 rw[this];decide
theorem buN:∀l∈locs,l.fine:=by
 intro l hl;simp only[locs,dG,gH,or_false]at hl;rcases hl with rfl|rfl|rfl|rfl|rfl|rfl
 all_goals exact{dc:=⟨_,rfl,notD aC,by decide,by decide⟩,grp:=⟨_,_,rfl,notD aC,λd hd=>by injection hd with hd;subst hd;decide⟩,minus:=⟨_,_,rfl,notD aC,by decide,by decide,by decide,by first|exact caM|exact caL⟩,cur:=⟨_,_,rfl,notD aC,notD aC⟩,pct:=rfl}
theorem awM(h:isD c):decodeL (c::t)=(c.toNat,1):=by
 rw[decodeL_N];exact decodeN_ascii _ _ _ _ _ (show c.toNat<128 by unfold isD at h;omega)
theorem alQ(h:isD c):yP c.toNat=false:=by
 unfold isD at h;unfold yP;simp only[dQ,beq_eq_false_iff_ne];omega
theorem auM{s:List UInt8}(h:s=[]∨yP (decodeL s).1=false)(f:Nat):aaV yP f s=s:=by
 cases f with
 |zero=>rfl
 |succ f=>
  by_cases h0:s=[]
  ·subst h0;exact anN _ _
  rcases h with h|h
  ·grind
  rw[aqF _ _ h0,aM (by rw[h];decide)]
theorem blL{s:List UInt8}(h:isD (s.getD (s.length-1) 0))(f:Nat):abQ yP f s=s:=by
 cases f with
 |zero=>rfl
 |succ f=>
  by_cases h0:s=[]
  ·subst h0;exact acV _ _
  rw[bdU _ _ h0];have hr:decodeLastL s=((s.getD (s.length-1) 0).toNat,1):=by
   unfold decodeLastL;rw[aM h0,aN (by have:=h;unfold isD at this;omega)]
  rw[hr,aM (by rw[alQ h];decide)]
theorem bqO{s:List UInt8}(h:s=[]∨yP (decodeL s).1=false)(h2:isD (s.getD (s.length-1) 0)):acO yP s=s:=by
 unfold acO;rw[auM h,blL h2]
theorem bcI{p s:List UInt8}(hp:p≠[])(h:p.getD (p.length-1) 0≠s.getD (s.length-1) 0):hasSuffix s p=false:=by
 unfold hasSuffix;rw[Bool.eq_false_iff];intro q;rw[List.isSuffixOf_iff_suffix]at q;obtain⟨t,rfl⟩:=q;apply h;have hl:=bV.2 hp;rw[aP,aP,cY (by rw[aO];omega),aO,show t.length+p.length-1-t.length=p.length-1 by omega]
theorem ahT(h:b≠[]):(a++b).getD ((a++b).length-1) 0=b.getD (b.length-1) 0:=by
 have hl:=bV.2 h;rw[aP,aP,cY (by rw[aO];omega),aO,show a.length+b.length-1-a.length=b.length-1 by omega]
theorem anD(hd:Digs b)(h:b≠[]):isD (b.getD (b.length-1) 0):=by
 have hl:=bV.2 h;rw[aP,aX aA];exact hd _ (cF _)
theorem boB{l:Loc}(hl:l.fine)(neg:Bool)(hc:isD c):ahO l ((if neg=true then l.minus else [])++(c::t))=some (c::t,neg):=by
 obtain⟨m,q,hm,hmd,h43,h40,h45,_⟩:=hl.minus;have hp:∀(k:UInt8)(z:List UInt8),¬isD k→hasPrefix (c::t) (k::z)=false:=λk z hk=>ahR (λe=>by injection e with e;exact hk (e▸hc));have ht:aaV yP (c::t).length (c::t)=c::t:=auM (.inr (by rw[awM hc];exact alQ hc)) _;cases neg with
 |false=>
  simp only[dN,if_false,cH];unfold ahO aeD;rw[hm,hp 40 [] (notD aC),hp 43 [] (notD aC),hp 45 [] (notD aC),hp m q hmd];simp only[dN,if_false];rw[ht]
 |true=>
  simp only[if_true];have e40:hasPrefix (l.minus++(c::t)) [40]=false:=by rw[hm];exact ahR (λe=>h40 (by injection e))
  have e43:hasPrefix (l.minus++(c::t)) [43]=false:=by rw[hm];exact ahR (λe=>h43 (by injection e))
  have em:hasPrefix (l.minus++(c::t)) l.minus=true:=by unfold hasPrefix;rw[List.isPrefixOf_iff_prefix];exact List.prefix_append _ _
  have et:trimPrefix (l.minus++(c::t)) l.minus=c::t:=by unfold trimPrefix;rw[aN em];exact List.drop_left
  unfold ahO aeD;rw[e40,e43];simp only[dN,if_false];by_cases hh:hasPrefix (l.minus++(c::t)) [45]=true
  ·rw[aN hh];have hm45:m=45:=by
    rw[hm]at hh;simp[hasPrefix,List.isPrefixOf]at hh;exact hh.symm
   have hq:l.minus=[45]:=by rw[hm,h45 hm45,hm45]
   rw[hq]at et ⊢;rw[et,ht]
  grind
theorem ccX{l:Loc}(hl:l.fine)(hc:isD c)(hz:isD ((c::t).getD t.length 0)):aeR l (c::t)=(0,c::t,0):=by
 obtain⟨k,q,hk,hkd,hkl⟩:=hl.cur;have hp:hasPrefix (c::t) l.cur=false:=by rw[hk];exact ahR (λe=>by injection e with e;exact hkd (e▸hc))
 have hs:hasSuffix (c::t) l.cur=false:=by
  rw[hk];refine bcI aF (λe=>hkl ?_);simp only[aW,Nat.add_sub_cancel]at e;rw[e];exact hz
 have hc2:hasSuffix (c::t) l.pct=false:=by
  rw[hl.pct];refine bcI aF (λe=>?_);simp only[aW,Nat.add_sub_cancel]at e;rw[←e]at hz;exact absurd hz (notD aC)
 unfold aeR;rw[hp,hs,hc2];rfl
section
open Go Go.RowKit
def aeJ(l:Loc)(g:Bool)(w:List UInt8):List UInt8:=if g=true then ajB l w else w
end
theorem biQ{q s:List UInt8}:replaceAll s (c::q) []=replaceK (c::q) [] (count s (c::q)) s:=by
 unfold replaceAll replace;rw[aM aF];unfold replaceNum;rw[aN (.inl aC)]
theorem axR{q z:List UInt8}(ha:c∉a):replaceAll (a++(c::q)++z) (c::q) []=a++replaceAll z (c::q) []:=by
 have hi:=ayS (c:=c) (r:=q) (z:=z) ha;have hd:(a++(c::q)++z).drop (a.length+(c::q).length)=z:=by rw[show a.length+(c::q).length=(a++(c::q)).length by simp];exact List.drop_left
 have ht:(a++(c::q)++z).take a.length=a:=by rw[bK,List.take_left]
 rw[biQ,biQ];have hc:count (a++(c::q)++z) (c::q)=count z (c::q)+1:=by
  unfold count;rw[countFrom,aM (by rw[hi,beq_iff_eq];omega),hi,dZ,hd,fG 1];congr 1;exact countFrom_fuel aF _ z (by simp only[aO,aW];omega) _ aA
 rw[hc,replaceK_hit _ _ _ _ _ hi,ht,hd,bU]
theorem biO{q:List UInt8}:replaceAll [] (c::q) []=[]:=amC rfl
theorem arH{q s:List UInt8}(ha:c∉a)(hs:s=[]∨∃z,s=(c::q)++z):replaceAll (a++s) (c::q) []=a++replaceAll s (c::q) []:=by
 rcases hs with rfl|⟨z,rfl⟩
 ·rw[bU,biO,bU];exact amC (akA ha)
 have h2:=axR (c:=c) (q:=q) (a:=[]) (z:=z) aF;rw[cH,cH]at h2;rw[←bK,axR ha,h2]
theorem bmH{l:Loc}(hl:l.fine):∀(f i:Nat)(d s:List UInt8),Digs d→(s=[]∨∃z,s=l.grp++z)→replaceAll (akQ l f i d s) l.grp []=d++replaceAll s l.grp []:=by
 obtain⟨c,q,hg,hc,_⟩:=hl.grp;intro f;induction f with
 |zero=>
  intro i d s hd hs;unfold akQ;rw[hg]at hs ⊢;exact arH (aeY hd hc) hs
 |succ f ih=>
  intro i d s hd hs;unfold akQ;split
  ·rw[ih (i+1) _ _ (hd.take _) (.inr ⟨d.drop (d.length-abC l i)++s,by rw[bK]⟩)];have h1:replaceAll (l.grp++d.drop (d.length-abC l i)++s) l.grp []=d.drop (d.length-abC l i)++replaceAll s l.grp []:=by
    rw[hg]at hs ⊢;have h2:=axR (c:=c) (q:=q) (a:=[]) (z:=d.drop (d.length-abC l i)++s) aF;rw[cH,cH]at h2;rw[bK,h2];exact arH (aeY (hd.drop _) hc) hs
   rw[h1,←bK,cK]
  rw[hg]at hs ⊢;exact arH (aeY hd hc) hs
theorem bbB{l:Loc}(hl:l.fine)(hw:Digs w):replaceAll (ajB l w) l.grp []=w:=by
 obtain⟨c,q,hg,_,_⟩:=hl.grp;unfold ajB;rw[bmH hl _ _ _ _ hw (.inl rfl),hg,biO,bU]
theorem buC(l:Loc):∀(f i:Nat)(d s:List UInt8)(x:UInt8),x∈akQ l f i d s→x∈d∨x∈l.grp∨x∈s:=by
 intro f;induction f with
 |zero=>
  intro i d s x h;unfold akQ at h;rcases cN.1 h with h|h
  ·exact .inl h
  exact .inr (.inr h)
 |succ f ih=>
  intro i d s x h;unfold akQ at h;split at h
  ·rcases ih _ _ _ x h with h|h|h
   ·exact .inl (fQ h)
   ·exact .inr (.inl h)
   rcases cN.1 h with h|h
   ·rcases cN.1 h with h|h
    ·exact .inr (.inl h)
    exact .inl (gD h)
   exact .inr (.inr h)
  rcases cN.1 h with h|h
  ·exact .inl h
  exact .inr (.inr h)
theorem boE(l:Loc):∀(f i:Nat)(d s:List UInt8),Digs d→d≠[]→∃c t,akQ l f i d s=c::t∧isD c:=by
 have base:∀(d s:List UInt8),Digs d→d≠[]→∃c t,d++s=c::t∧isD c:=by
  intro d s hd hn
  match d,hn with
  |c::r,_=>exact⟨c,r++s,rfl,hd c aF⟩
 intro f;induction f with
 |zero=>intro i d s hd hn;unfold akQ;exact base d s hd hn
 |succ f ih=>
  intro i d s hd hn;unfold akQ;split
  ·rename_i h
   refine ih _ _ _ (hd.take _) (λq=>?_);have:=congrArg List.length q;rw[aV,bG]at this;omega
  exact base d s hd hn
theorem bnZ(l:Loc):∀(f i:Nat)(d s:List UInt8),Digs d→d≠[]→(s=[]∨isD (s.getD (s.length-1) 0))→isD ((akQ l f i d s).getD ((akQ l f i d s).length-1) 0):=by
 have base:∀(d s:List UInt8),Digs d→d≠[]→(s=[]∨isD (s.getD (s.length-1) 0))→isD ((d++s).getD ((d++s).length-1) 0):=by
  intro d s hd hn hs;rcases hs with rfl|hs
  ·rw[bU];exact anD hd hn
  by_cases h0:s=[]
  ·subst h0;rw[bU];exact anD hd hn
  rw[ahT h0];exact hs
 intro f;induction f with
 |zero=>intro i d s hd hn hs;unfold akQ;exact base d s hd hn hs
 |succ f ih=>
  intro i d s hd hn hs;have h2:=ahB l i;unfold akQ;split
  ·rename_i h
   refine ih _ _ _ (hd.take _) (λq=>?_) (.inr ?_)
   ·have:=congrArg List.length q;rw[aV,bG]at this;omega
   have hne:d.drop (d.length-abC l i)≠[]:=λq=>by
    have:=congrArg List.length q;rw[bO,bG]at this;omega
   rw[bK,ahT (by simp[hne])];exact base _ s (hd.drop _) hne hs
  exact base d s hd hn hs
section
open Go Go.RowKit Go.Lib
def Loc.grpOk(l:Loc):Prop:=∀x∈l.grp,x≠69∧x≠101∧l.dc≠[x]
theorem bnW:∀l∈locs,l.grpOk:=by
 intro l hl;simp only[locs,dG,gH,or_false]at hl;rcases hl with rfl|rfl|rfl|rfl|rfl|rfl<;>(unfold Loc.grpOk;decide)
theorem atC{l:Loc}(g:Bool){x:UInt8}(h:x∈aeJ l g w):x∈w∨x∈l.grp:=by
 unfold aeJ at h;split at h
 ·unfold ajB at h;rcases buC l _ _ _ _ x h with h|h|h
  ·grind
  ·grind
  simp at h
 exact .inl h
theorem awT{l:Loc}(g:Bool)(hw:Digs w)(hn:w≠[]):∃c t,aeJ l g w=c::t∧isD c:=by
 unfold aeJ;split
 ·exact boE l _ _ _ _ hw hn
 match w,hn with
 |c::r,_=>exact⟨c,r,rfl,hw c aF⟩
theorem bpR{l:Loc}(g:Bool)(hw:Digs w)(hn:w≠[]):isD ((aeJ l g w).getD ((aeJ l g w).length-1) 0):=by
 unfold aeJ;split
 ·exact bnZ l _ _ _ _ hw hn (.inl rfl)
 exact anD hw hn
def afI(l:Loc)(g:Bool)(w r:List UInt8):List UInt8:=aeJ l g w++(if r=[]then []else l.dc++r)
theorem bpI{l:Loc}(hl:l.fine)(hg:l.grpOk)(g:Bool)(hw:Digs w)(hn:w≠[])(hr:Digs r):∃gr,apL l (afI l g w r)=some (w++r,r.length,gr):=by
 obtain⟨c,hdc,hc,_,_⟩:=hl.dc;have hnc:c∉aeJ l g w:=λh=>by
  rcases atC g h with h|h
  ·exact aeY hw hc h
  exact(hg c h).2.2 hdc
 have hcut:(cut (afI l g w r) l.dc).1=aeJ l g w∧(cut (afI l g w r) l.dc).2.1=r:=by
  unfold afI;rw[hdc];split
  ·rename_i h0
   rw[bU,bwI hnc,h0];exact⟨rfl,rfl⟩
  rw[←bK,ccI hnc];exact⟨rfl,rfl⟩
 obtain⟨a,t,hat,_⟩:=awT (l:=l) g hw hn;have hne:aeJ l g w≠[]:=by rw[hat];simp
 have hbad:ciY (aeJ l g w) r=false:=by
  unfold ciY;rw[aS hne,Bool.false_and,Bool.false_or];exact aS (λq=>q (bvY hr))
 have hrep:replaceAll (aeJ l g w) l.grp []=w:=by
  unfold aeJ;split
  ·exact bbB hl hw
  obtain⟨k,q,hk,hkc,_⟩:=hl.grp;rw[hk];exact amC (akA (aeY hw hkc))
 have hpl:ahH l (aeJ l g w)=some w:=by
  unfold ahH;rw[hrep,aM (by rintro(h|h);exact hn h;exact absurd (aeZ.2 hw) (by rw[h];decide)),aM];rintro⟨h1,h2⟩;cases g
  ·exact h1 rfl
  exact h2 rfl
 refine⟨!decide (w=aeJ l g w),?_⟩;unfold apL;rw[hcut.1,hcut.2,hbad,aM aC];unfold agD;rw[aM hne,hpl]
theorem bqF{l:Loc}(hl:l.fine)(hg:l.grpOk)(g:Bool)(hw:Digs w)(hr:Digs r):(69:UInt8)∉afI l g w r∧(101:UInt8)∉afI l g w r:=by
 obtain⟨c,hdc,hc,h1,h2⟩:=hl.dc;have n1:¬isD 69:=notD aC;have n2:¬isD 101:=notD aC;unfold afI;rw[hdc];constructor
 ·intro h;rcases cN.1 h with h|h
  ·rcases atC g h with h|h
   ·exact aeY hw n1 h
   exact(hg 69 h).1 rfl
  split at h
  ·simp at h
  rcases cN.1 h with h|h
  ·grind
  exact aeY hr n1 h
 intro h;rcases cN.1 h with h|h
 ·rcases atC g h with h|h
  ·exact aeY hw n2 h
  exact(hg 101 h).2.1 rfl
 split at h
 ·simp at h
 rcases cN.1 h with h|h
 ·grind
 exact aeY hr n2 h
theorem bnL{l:Loc}(hl:l.fine)(hg:l.grpOk)(g:Bool)(hw:Digs w)(hn:w≠[])(hr:Digs r):∃gr,agS l (afI l g w r)=some (w++r,-(r.length:Int),r.length,gr,false):=by
 obtain⟨h1,h2⟩:=bqF hl hg g hw hr;obtain⟨gr,hb⟩:=bpI hl hg g hw hn hr;refine⟨gr,?_⟩;unfold agS aoA;rw[cbU h1 h2,aM aC];simp only[hb];rw[Int.zero_sub]
theorem blB{l:Loc}(g:Bool)(hw:Digs w)(hn:w≠[])(hr:Digs r):∃c t,afI l g w r=c::t∧isD c∧isD ((c::t).getD t.length 0):=by
 obtain⟨c,q,hq,hc⟩:=awT (l:=l) g hw hn;have hz:isD ((afI l g w r).getD ((afI l g w r).length-1) 0):=by
  unfold afI;by_cases h:r=[]
  ·rw[aN h,bU];exact bpR g hw hn
  rw[aM h,ahT (by simp[h]),ahT h];exact anD hr h
 have he:afI l g w r=c::(q++(if r=[]then []else l.dc++r)):=by unfold afI;rw[hq];rfl
 refine⟨c,_,he,hc,?_⟩;rw[he]at hz;simpa using hz
theorem cbR{l:Loc}{v ds:List UInt8}{neg:Bool}{kd e e':Int}{k:Nat}{gr x:Bool}(ha:aeR l v=(kd,t,0))(hn:agS l t=some (d,e',k,gr,x))(hm:mkN neg d e'=((neg,ds,e),0)):
  ayY l v neg=if yK (agX neg ds e)=3 then(EntN.zero,2)else(⟨agX neg ds e,kd,k,gr,x⟩,0):=by
 unfold ayY;rw[ha];simp only[hn,Int.add_zero,hm];rw[aM aF]
theorem bgR{l:Loc}(hl:l.fine)(neg:Bool){ds:List UInt8}{e e':Int}{k:Nat}{gr x:Bool}(hc:isD c)(hz:isD ((c::t).getD t.length 0))(hn:agS l (c::t)=some (d,e',k,gr,x))(hm:mkN neg d e'=((neg,ds,e),0)):
  ajE l (acO yP ((if neg=true then l.minus else [])++(c::t)))=if yK (agX neg ds e)=3 then(EntN.zero,2)else(⟨agX neg ds e,0,k,gr,x⟩,0):=by
 obtain⟨m,q,hm0,_,_,_,_,hb⟩:=hl.minus;have ht:acO yP ((if neg=true then l.minus else [])++(c::t))=(if neg=true then l.minus else [])++(c::t):=by
  refine bqO (.inr ?_) (by rw[ahT aF];exact hz);cases neg with
  |true=>exact hb _
  |false=>simp only[dN,if_false,cH];rw[awM hc];exact alQ hc
 unfold ajE;rw[ht,boB hl neg hc];exact cbR (ccX hl hc hz) hn hm
open Go Go.RowKit Go.Lib
structure Loc.moneyOk (l:Loc):Prop where
 ne:l.cur≠[]
 left:∀z,yP (decodeL (l.cur++z)).1=false
 right:∀z,yP (decodeLastL (z++l.cur)).1=false
 signs:∀z,hasPrefix (l.cur++z) [40]=false∧hasPrefix (l.cur++z) [43]=false∧hasPrefix (l.cur++z) [45]=false∧hasPrefix (l.cur++z) l.minus=false
open Go Go.RowKit Go.Lib
def cmK:List (List UInt8):=[[32],[9],[194,160],[226,128,175]]
inductive Blanks:List UInt8→Prop
 |nil:Blanks []
 |cons {e b:List UInt8} (he:e∈cmK) (hb:Blanks b):Blanks (e++b)
theorem Blanks.one{e:List UInt8}(he:e∈cmK):Blanks e:=by
 have:=Blanks.cons he .nil
 rwa[bU]at this
theorem Blanks.app(ha:Blanks a)(hb:Blanks b):Blanks (a++b):=by
 induction ha with
 |nil=>exact hb
 |cons he _ ih=>rw[bK];exact .cons he ih
theorem Blanks.last(h:Blanks b):b=[]∨∃e∈cmK,∃c,Blanks c∧b=c++e:=by
 induction h with
 |nil=>exact .inl rfl
 | @cons e b he hb ih=>
  refine .inr ?_;rcases ih with rfl|⟨e2,he2,c,hc,rfl⟩
  ·exact⟨e,he,[],.nil,by simp⟩
  exact⟨e2,he2,e++c,.cons he hc,by simp⟩
end
def clX(l:Loc):Nat:=l.second
def atX(l:Loc)(n:Nat):Prop:=3≤n∧(n-3)%clX l=0
instance (l:Loc) (n:Nat):Decidable (atX l n):=by unfold atX;exact inferInstance
def gRo(l:Loc)(o:Nat):List UInt8→Bool→List UInt8
 | [],_=>[]
 |c::t,b=>(if b=false∧atX l (t.length+1+o)then l.grp else [])++c::gRo l o t false
def gR(l:Loc)(d:List UInt8):List UInt8:=gRo l 0 d true
theorem bvK(l:Loc)(o:Nat):∀(a b:List UInt8)(f:Bool),gRo l o (a++b) f=gRo l (o+b.length) a f++gRo l o b (f&&a.isEmpty)
 | [],b,f=>by simp[gRo]
 |c::t,b,f=>by
  rw[eE,gRo,bvK l o t b false,gRo];have e:(t++b).length+1+o=t.length+1+(o+b.length):=by rw[aO];omega
  rw[e];simp
theorem ayV(l:Loc)(o:Nat):∀(d:List UInt8)(f:Bool),(∀n,o<n→n≤o+d.length→(f=true→n<o+d.length)→¬atX l n)→gRo l o d f=d
 | [],_,_=>rfl
 |c::t,f,h=>by
  rw[gRo,ayV l o t false (λn h1 h2 _=>h n h1 (by simp only[aW];omega) (λ_=>by simp only[aW];omega))];rw[aM]
  ·rfl
  rintro⟨hf,hm⟩;exact h _ aA (by simp only[aW];omega) (λq=>by rw[q]at hf;cases hf) hm
def btL(l:Loc)(i:Nat):Nat:=if i=0 then 0 else if l.second=2 then 3+(i-1)*2 else 3+(i-1)*3
theorem bjG{l:Loc}(hs:l.second=2∨l.second=3)(i n:Nat)(h1:btL l i<n)(h2:n<btL l i+abC l i):¬atX l n:=by
 unfold btL at h1 h2;unfold abC at h2;unfold atX clX;rintro⟨h3,h4⟩;rcases hs with hs|hs
 ·grind
 grind
theorem bzY{l:Loc}(hs:l.second=2∨l.second=3)(i:Nat):btL l (i+1)=btL l i+abC l i∧atX l (btL l (i+1)):=by
 unfold btL abC atX clX;rcases hs with hs|hs
 ·grind
 grind
theorem bcJ{l:Loc}(hs:l.second=2∨l.second=3):∀(f i:Nat)(d s:List UInt8),d.length≤f→akQ l f i d s=gRo l (btL l i) d true++s
 |0,i,d,s,h=>by
  have:d=[]:=dI.1 aA;subst this;rfl
 |f+1,i,d,s,h=>by
  have h2:=ahB l i;unfold akQ;split
  ·rename_i hc
   rw[bcJ hs f (i+1) _ _ (by rw[aV];omega)];have hl:(d.drop (d.length-abC l i)).length=abC l i:=by rw[bO];omega
   have hn:=bzY hs i
   conv=>rhs;rw[←cK (d.length-abC l i) d]
   rw[bvK,hl,←hn.1];have hem:(d.take (d.length-abC l i)).isEmpty=false:=by
    rw[List.isEmpty_eq_false_iff_exists_mem];refine⟨(d.take (d.length-abC l i))[0]'(by rw[aV];omega),cF _⟩
   rw[hem,Bool.and_false];have hg:gRo l (btL l i) (d.drop (d.length-abC l i)) false=l.grp++d.drop (d.length-abC l i):=by
    cases hd:d.drop (d.length-abC l i)with
    |nil=>rw[hd]at hl;simp at hl;omega
    |cons c t=>
     rw[hd]at hl;simp only[aW]at hl;rw[gRo,aN ⟨rfl,by rw[show t.length+1+btL l i=btL l (i+1) by omega];exact hn.2⟩];rw[ayV l _ t false (λn h3 h4 _=>bjG hs i n h3 aA)]
   rw[hg];simp only[bK]
  rename_i hc
  rw[ayV l _ d true (λn h3 h4 h5=>bjG hs i n h3 (by have:=h5 rfl;omega))]
theorem bgN{l:Loc}(hs:l.second=2∨l.second=3)(d:List UInt8):ajB l d=gR l d:=by
 unfold ajB gR;rw[bcJ hs _ _ _ _ (aZ _),bU];rfl
/-! ### chains -/
inductive Ch (l:Loc):List UInt8→List UInt8→Prop
 |nil:Ch l [] []
 |cons {r s d:List UInt8} (hr:Digs r) (hn:r≠[]) (hs:Ch l s d):Ch l (l.grp++r++s) (r++d)
theorem Ch.len{l:Loc}(hl:l.fine){s:List UInt8}(h:Ch l s d):d.length≤s.length∧(s≠[]→d.length<s.length):=by
 obtain⟨c,q,hg,hc,_⟩:=hl.grp;induction h with
 |nil=>exact⟨aZ _,λh=>absurd rfl h⟩
 | @cons r s d hr hn hs ih=>
  have:1≤l.grp.length:=by rw[hg];simp
  have e:(l.grp++r++s).length=l.grp.length+r.length+s.length:=by simp only[aO]
  rw[e,aO];exact⟨by omega,λ_=>by omega⟩
/-! ### as the document reads them -/
end Go.Proofs.YteedncdcbgplfaaGreatDoor
