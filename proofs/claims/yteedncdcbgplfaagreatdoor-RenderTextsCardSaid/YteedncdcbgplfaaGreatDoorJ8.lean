import Derived.Test.YteedncdcbgplfaaGreatDoorJ7
set_option maxHeartbeats 1000000
namespace Go.Proofs.YteedncdcbgplfaaGreatDoor
open Go.Proofs.Tryz
open Go Go.RowKit
variable{o:Loc}{i k:Nat}{a:List Nat}
def acP(ds:List UInt8)(p:Int)(places:Nat):List UInt8×List UInt8:=
 if ds=[]then([],List.replicate places 48)
 else((List.replicate (-p).toNat 48++ds++List.replicate (p.toNat+places-(List.replicate (-p).toNat 48++ds:List UInt8).length) 48).take p.toNat,
   (List.replicate (-p).toNat 48++ds++List.replicate (p.toNat+places-(List.replicate (-p).toNat 48++ds:List UInt8).length) 48).drop p.toNat)
def atR(ds:List UInt8)(i:Int):UInt8:=if i<0∨(ds.length:Int)≤i then 48 else ds.getD i.toNat 0
def boU(ds:List UInt8)(p:Int)(places:Nat):List UInt8×List UInt8:=
 if ds=[]then([],(List.range places).map λi=>atR ds (p+(i:Nat)))else((List.range p.toNat).map λi=>atR ds (i:Nat),(List.range places).map λi=>atR ds (p+(i:Nat)))
theorem bjF{ds:List UInt8}{p:Int}{places:Nat}(h:ds=[]∨(ds.length:Int)≤p+places):boU ds p places=acP ds p places:=by
 unfold boU acP;by_cases h0:ds=[]
 ·rw[aM h0,aM h0];subst h0;refine congrArg _ (cW aF λi h1 h2=>?_);simp only[List.getElem_map,List.getElem_range,List.getElem_replicate,atR];rw[aM];simp;omega
 rw[aL h0,aL h0];have hl:(ds.length:Int)≤p+places:=h.resolve_left h0;have hp:=cG.2 h0;have tl:(List.replicate (-p).toNat 48++ds++List.replicate (p.toNat+places-(List.replicate (-p).toNat 48++ds:List UInt8).length) 48).length=p.toNat+places:=by
  simp only[aQ,aZ];omega
 have tg:∀i,i<p.toNat+places→(List.replicate (-p).toNat 48++ds++List.replicate (p.toNat+places-(List.replicate (-p).toNat 48++ds:List UInt8).length) 48)[i]?=some (atR ds ((i:Int)-(-p).toNat)):=by
  intro i hi;unfold atR;by_cases h1:i<(-p).toNat
  ·rw[aM (.inl aA),bE,dM (by simpa using h1)];simp[h1]
  by_cases h2:i<(-p).toNat+ds.length
  ·rw[aI,dM aG,dH aG,aZ,aS,show((i:Int)-(-p).toNat).toNat=i-(-p).toNat by omega,aR aA];rfl
  rw[aM (.inr aA),dH aG,List.getElem?_replicate,aM (by simp at tl ⊢;omega)]
 generalize(List.replicate (-p).toNat 48++ds++List.replicate (p.toNat+places-(List.replicate (-p).toNat 48++ds:List UInt8).length) 48)=t at *;refine Prod.ext (List.ext_getElem? λi=>?_) (List.ext_getElem? λi=>?_)
 ·show((List.range p.toNat).map _)[i]?=(t.take p.toNat)[i]?;by_cases hi:i<p.toNat
  ·rw[List.getElem?_take_of_lt hi,tg i aA,cD,List.getElem?_range hi];show some (atR ds i)=_;congr 2;omega
  rw[List.getElem?_eq_none aG,List.getElem?_eq_none aG]
 show((List.range places).map _)[i]?=(t.drop p.toNat)[i]?;rw[cT];by_cases hi:i<places
 ·rw[tg _ aA,cD,List.getElem?_range hi];show some (atR ds (p+i))=_;congr 2;omega
 rw[List.getElem?_eq_none aG,List.getElem?_eq_none aA]
theorem axM{ds:List UInt8}{p:Int}{places:Nat}(h:ds=[]∨(ds.length:Int)≤p+places):(acP ds p places).2.length=places:=by
 rw[←bjF h];unfold boU;split<;>simp
def ajI(a:Int)(n:Nat):Int:=a/(n:Int)
theorem ayX(a:Int)(n:Nat)(hn:0<n):ajI a n=(if a.tmod n<0 then a.tdiv n-1 else a.tdiv n):=by
 unfold ajI;have hnz:(n:Int)≠0:=by omega
 have h:=Int.mul_tdiv_add_tmod a n;have h2:=Int.mul_ediv_add_emod a n;have h3:=Int.emod_nonneg a hnz;have h4:=Int.emod_lt_of_pos a (show(0:Int)<n by omega);rcases(show a<0∨0≤a by omega)with ha|ha
 ·have e:(-a).tdiv n=(-a)/n:=Int.tdiv_eq_ediv_of_nonneg aA;have m1:a.tdiv n= -((-a)/n):=by rw[←e,Int.neg_tdiv];omega
  have g1:=Int.mul_ediv_add_emod (-a) n;have g3:=Int.emod_nonneg (-a) hnz;have g4:=Int.emod_lt_of_pos (-a) (show(0:Int)<n by omega);rw[m1]at h ⊢;generalize(-a)/(n:Int)=u at *;generalize a/(n:Int)=v at *;have k1:(n:Int)* -u= -((n:Int)*u):=Int.mul_neg _ _;split
  ·rename_i hlt
   have:(n:Int)*(v+u)=(n:Int)*v+(n:Int)*u:=Int.mul_add _ _ _;have hx:(n:Int)*(v+u)<0∧ -(2*(n:Int))<(n:Int)*(v+u):=by omega
   have:v+u= -1:=by
    rcases(show(v+u)<0∨0≤(v+u) by omega)with q|q
    ·rcases(show(v+u)<(-1)∨(-1)≤(v+u) by omega)with q2|q2
     ·have:=Int.mul_le_mul_of_nonneg_left (show v+u≤ -2 by omega) (show(0:Int)≤n by omega);omega
     omega
    have:=Int.mul_nonneg (show(0:Int)≤n by omega) q;omega
   omega
  rename_i hlt
  have:(n:Int)*(v+u)=(n:Int)*v+(n:Int)*u:=Int.mul_add _ _ _;have hx:(n:Int)*(v+u)<(n:Int)∧ -(n:Int)<(n:Int)*(v+u):=by omega
  have:v+u=0:=by
   rcases(show(v+u)<0∨0≤(v+u) by omega)with q|q
   ·have:=Int.mul_le_mul_of_nonneg_left (show v+u≤ -1 by omega) (show(0:Int)≤n by omega);omega
   rcases(show 0<(v+u)∨(v+u)≤0 by omega)with q2|q2
   ·have:=Int.mul_le_mul_of_nonneg_left (show 1≤v+u by omega) (show(0:Int)≤n by omega);omega
   omega
  omega
 rw[Int.tdiv_eq_ediv_of_nonneg ha]at *;rw[aL];have:=Int.tmod_nonneg (n:Int) ha;omega
section
open Go Go.RowKit
set_option maxRecDepth 100000
def szI(sec i:Nat):Int:=if i=0 then 3 else sec
def zI(sec k i:Nat):Int:=(k:Int)-(if i=0 then 0 else 3+sec*((i-1:Nat):Int))
theorem bpH(sec k i:Nat):zI sec k (i+1)=zI sec k i-szI sec i:=by
 unfold zI szI;by_cases h:i=0
 ·subst h;simp
 rw[aI,aL h,aL h,show((i+1-1:Nat):Int)=((i-1:Nat):Int)+1 by omega,Int.mul_add];omega
theorem bmU(sec k:Nat):zI sec k 0=(k:Int):=by unfold zI;simp
theorem boY(sec k j:Nat):zI sec k (j+1)=(k:Int)-(3+sec*(j:Int)):=by unfold zI;rw[aI];rfl
theorem szE(hs2:o.second=2∨o.second=3)(i:Nat):((if o.second=2 then [3,2]else [3]:List Int).map (AV.int .i64))[(arR (i:Int) (((if o.second=2 then [3,2]else [3]:List Int).length:Int)-1)).toNat]?=some (.int .i64 (szI o.second i)):=by
 rcases hs2 with h|h<;>rw[h]
 ·match i with
  |0=>rfl
  |1=>rfl
  |i+2=>
   have:arR ((i+2:Nat):Int) (((([3,2]:List Int)).length:Int)-1)=1:=by unfold arR;split<;>(simp at *;try omega)
   simp only[if_true];rw[this];rfl
 match i with
 |0=>rfl
 |i+1=>
  have:arR ((i+1:Nat):Int) (((([3]:List Int)).length:Int)-1)=0:=by unfold arR;split<;>(simp at *;try omega)
  simp only[show((3:Nat)=2)=False by simp,if_false];rw[this];rfl
theorem bkB(hs2:o.second=2∨o.second=3)(h0:¬k=0)(h1:i=0∨0<zI o.second k (i-1))(h2:zI o.second k i≤0):(zI o.second k i<0→aaW o true k=[])∧(¬zI o.second k i<0→aaW o true k=o.grp):=by
 match i with
 |0=>rw[bmU]at h2;omega
 |1=>
  have h1:0<zI o.second k 0:=h1.resolve_left aA;rw[bmU]at h1;have e:zI o.second k 1=(k:Int)-3:=by rw[show(1:Nat)=0+1 from rfl,boY];simp
  rw[e]at h2 ⊢;unfold aaW;constructor
  ·intro h;rw[aL (by rintro⟨_,h3,_⟩;omega)]
  intro h;have:k=3:=by omega
  subst this;rw[aM ⟨rfl,by omega,by simp⟩]
 |j+2=>
  have h1:0<zI o.second k (j+1):=h1.resolve_left aA;rw[boY]at h1;have e:zI o.second k (j+2)=(k:Int)-(3+o.second*((j+1:Nat):Int)):=boY _ _ _;rw[e]at h2 ⊢;clear e;unfold aaW;rcases hs2 with e|e<;>rw[e]at h1 h2 ⊢ <;>constructor<;>intro h
  ·rw[aL (by rintro⟨_,h3,h4⟩;omega)]
  ·rw[aM ⟨rfl,by omega,by omega⟩]
  ·rw[aL (by rintro⟨_,h3,h4⟩;omega)]
  rw[aM ⟨rfl,by omega,by omega⟩]
theorem bnZ{gr:Bool}(h:gr=false∨k=0):aaW o gr k=[]:=by
 unfold aaW;rw[aL];rintro⟨h1,h2,_⟩;rcases h with h|h
 ·rw[h]at h1;cases h1
 omega
theorem auL(ho:o.ok)(gr:Bool)(k:Nat):(aaW o gr k).length≤10:=by
 unfold aaW;split
 ·exact ho.2.1
 simp
theorem bkM(hs2:o.second=2∨o.second=3)(i:Nat):2≤szI o.second i∧szI o.second i≤3:=by
 unfold szI;split<;>omega
def bbT(l:List ItN)(gr:Bool)(sc:Int)(o:Loc)(b n:Nat)(q:Nat)(H:Heap):Nat→Env→Heap→Prop:=λk env H1=>∃i:Nat,(i=0∨0<zI o.second q (i-1))∧i≤q+1∧zI o.second q i+2*i≤q+3∧ -3≤zI o.second q i∧env=[(0,.iptr (shC l gr sc o b n)),(1,.int .i64 (zI o.second q i)),(5,.int .i64 (i:Int))]∧H=H1∧k=(zI o.second q i).toNat
theorem atO(l:List ItN)(gr:Bool)(sc:Int)(o:Loc)(b n:Nat)(hs2:o.second=2∨o.second=3)(q:Nat)(hq:q≤1000000):Fn 177 [.iptr (shC l gr sc o b n),.int .i64 (q:Int)] (.str (aaW o gr q)):=by
 intro H;refine .of_body func177 rfl ntmps177 results177 rfl ?_;iterate 6 refine AX ?_
 refine .seqTo 15 (.bool (decide (gr=false∨q=0))) [0,1,4] ?_ ?_
 ·iterate 3 refine AX ?_
  refine .p rfl (zA U89 rfl Z52 (tm rfl)) (.p rfl (zA U52 rfl Z4 (tm rfl)) ?_);iterate 3 refine AX ?_
  refine zB (t:=12) rfl (λhg12=>?_) (λhg12=>?_)
  ·have hh12:=hg12;try simp only[aK]at hh12
   iterate 4 refine AX ?_
   exact⟨rfl,zP rfl (by(refine Eq.symm ?_;first|exact aP (.inl hh12)|exact aN.2 ⟨λh=>by rcases h with h|h;exact absurd h (by rw[hh12];simp);omega,λh=>.inr aA⟩)) sX,rfl⟩
  have hh12:=hg12;try simp only[aK]at hh12
  iterate 4 refine AX ?_
  exact⟨rfl,zP rfl (by(refine Eq.symm ?_;first|exact aP (.inl hh12)|exact aN.2 ⟨λh=>by rcases h with h|h;exact absurd h (by rw[hh12];simp);omega,λh=>.inr aA⟩)) sX,rfl⟩
 refine .sub [(15,_),(0,_),(1,_),(4,_)] sX ?_;refine .cx rfl (λhc15=>?_) (λhc15=>?_)
 ·iterate 8 refine AX ?_
  refine⟨?_,rfl⟩;rw[bnZ hc15];rfl
 iterate 9 refine AX ?_
 refine .loopW (bbT l gr sc o b n q H) (q) ⟨0,.inl rfl,Nat.zero_le _,by rw[bmU];omega,by rw[bmU];omega,rfl,rfl,by rw[bmU];rfl⟩ (zJ rfl (yD rfl (by rw[bmU]) (zJ rfl yF))) (hRa _) ?_;rintro _ _ _ ⟨i,hi0,hiq,hz4,hz5,rfl,rfl,hk⟩;iterate 7 refine AX ?_
 refine .cx rfl (λhc17=>?_) (λhc17=>?_)
 ·have hzs:=bpH o.second q i;obtain⟨hz1,hz2⟩:=bkM hs2 i;iterate 4 refine AX ?_
  refine .draw [(0,true),(1,true),(2,true),(3,true),(4,true),(5,true),(6,true),(7,true),(8,true),(9,true),(10,true),(11,true),(12,true),(13,true),(14,true),(15,true),(16,true),(17,true),(18,true)] rfl aE ?_;iterate 3 refine AX ?_
  refine .p rfl rfl (zA U89 rfl Z32 (tm rfl)) (.p rfl rfl (zA U32 rfl Z30 (tm rfl)) ?_);iterate 4 refine AX ?_
  refine .p rfl rfl (zA U89 rfl Z32 (tm rfl)) (.p rfl rfl (zA U32 rfl Z30 (tm rfl)) ?_);iterate 2 refine AX ?_
  refine .p rfl rfl (aaD (tm rfl) zG (by split<;>simp)) ?_;refine AX ?_;refine .p rfl rfl (qU U30 Z3 (tm rfl) (tm rfl) (by unfold arR;split<;>(try split)<;>simp<;>omega) (szE hs2 i)) ?_;iterate 12 refine AX ?_
  refine Round.mk ⟨i+1,.inr (by rw[show i+1-1=i from rfl];omega),by omega,by rw[hzs];omega,by rw[hzs];omega,rfl,rfl,rfl⟩ (zJ rfl (yD rfl (by rw[hzs]) (zJ rfl yF))) (hRa _) aA
 have hgt:gr=true:=by
  cases hgg:gr with
  |true=>rfl
  |false=>exact absurd (.inl hgg) hc15
 obtain⟨hm1,hm2⟩:=bkB hs2 (k:=q) (i:=i) (λe=>hc15 (.inr e)) hi0 aA;iterate 12 refine AX ?_
 refine .cx rfl (λhc39=>?_) (λhc39=>?_)
 ·iterate 8 refine AX ?_
  refine⟨?_,rfl⟩;rw[hgt,hm1 hc39];rfl
 iterate 6 refine AX ?_
 refine .p rfl (zA U89 rfl Z32 (tm rfl)) (.p rfl (zA U32 rfl Z9 (tm rfl)) ?_);iterate 6 refine AX ?_
 refine⟨?_,rfl⟩;rw[hgt,hm2 aA];rfl
theorem bbS(l:List ItN)(gr:Bool)(sc:Int)(o:Loc)(b n:Nat)(hs2:o.second=2∨o.second=3)(q:Nat)(hq:q≤1000000){z:Int}(hz:z=(q:Int)):Fn 177 [.iptr (shC l gr sc o b n),.int .i64 z] (.str (aaW o gr q)):=by
 intro H;subst hz;exact atO l gr sc o b n hs2 q hq H
def bfO(mk:Nat→List UInt8)(s:List UInt8)(last:Nat):Nat→List UInt8
 |0=>[]
 |i+1=>bfO mk s last i++(s.getD i 0::mk (last+(s.length-1-i)))
theorem bgO(mk:Nat→List UInt8)(s:List UInt8)(last:Nat)(a r:List UInt8)(h:s=a++r):bfO mk s last s.length=bfO mk s last a.length++baG mk r last:=by
 induction r generalizing a with
 |nil=>rw[h];simp[baG]
 |cons x r ih=>
  rw[ih (a++[x]) (by rw[h];simp),aQ,eN,bfO,baG,bE];rw[show s.getD a.length 0=x by rw[h];simp,show s.length-1-a.length=r.length by rw[h];simp]
theorem bnF(mk:Nat→List UInt8)(s:List UInt8)(last:Nat):bfO mk s last s.length=baG mk s last:=by
 rw[bgO mk s last [] s rfl];rfl
theorem bkX{mk:Nat→List UInt8}(hm:∀k,(mk k).length≤10)(s:List UInt8)(last i:Nat):(bfO mk s last i).length≤11*i:=by
 induction i with
 |zero=>simp[bfO]
 |succ i ih=>rw[bfO,aQ,aW];have:=hm (last+(s.length-1-i));omega
theorem alL{s:List UInt8}(h:i<s.length):(s.take (i+1)).drop i=[s.getD i 0]:=by
 rw[←bN h,List.drop_append_of_le_length aG,dI aG];simp[aR h]
def bjD(l:List ItN)(gr:Bool)(sc:Int)(o:Loc)(b n:Nat)(s:List UInt8)(last:Nat)(H:Heap):Nat→Env→Heap→Prop:=λk env H1=>∃i:Nat,i≤s.length∧env=[(0,.iptr (shC l gr sc o b n)),(1,.str s),(2,.int .i64 (last:Int)),(7,.str (bfO (aaW o gr) s last i)),(10,.int .i64 (s.length:Int)),(11,.int .i64 (i:Int))]∧H=H1∧k=s.length-i
theorem axU(l:List ItN)(gr:Bool)(sc:Int)(o:Loc)(b n:Nat)(ho:o.ok)(hs2:o.second=2∨o.second=3)(s:List UInt8)(hs:s.length≤110000)(last:Nat)(hlast:last≤800000):Fn 178 [.iptr (shC l gr sc o b n),.str s,.int .i64 (last:Int)] (.str (baG (aaW o gr) s last)):=by
 intro H;refine .of_body func178 rfl ntmps178 results178 rfl ?_;iterate 19 refine AX ?_
 refine .loopW (bjD l gr sc o b n s last H) (s.length) ⟨0,Nat.zero_le _,rfl,rfl,rfl⟩ sX (hRa _) ?_;rintro _ _ _ ⟨i,hi,rfl,rfl,rfl⟩;iterate 6 refine AX ?_
 refine .cx rfl (λhc12=>?_) (λhc12=>?_)
 ·iterate 10 refine AX ?_
  refine .draw [(0,true),(1,true),(2,true),(3,true),(4,true),(5,true),(6,true),(7,true),(8,true),(9,true),(10,true),(11,true),(12,true),(13,true),(14,true),(15,true),(16,true),(17,true)] rfl aE ?_;iterate 14 refine AX ?_
  refine .f rfl rfl (λ_=>zE call177 (evs2 rfl rfl) (bbS _ _ _ _ _ _ hs2 (last+(s.length-1-i)) aA aA _)) ?_;refine .p rfl rfl (zU (tm rfl) (tm rfl) (by have h1:=auL ho gr (last+(s.length-1-i));rw[zT];simp only[bD,aU,aQ];omega)) ?_;refine .p rfl rfl (zU (tm rfl) (tm rfl) (by have h1:=auL ho gr (last+(s.length-1-i));have h2:=bkX (auL ho gr) s last i;rw[zT];simp only[bD,aU,aQ];omega)) ?_;iterate 9 refine AX ?_
  refine Round.mk ⟨i+1,by omega,rfl,rfl,rfl⟩ (zJ rfl (zJ rfl (zJ rfl (yD rfl (by rw[bfO,show((i:Int)+1).toNat=i+1 by omega,show(i:Int).toNat=i from rfl,alL (show i<s.length by omega)];rfl) sX)))) (hRa _) aA
 iterate 13 refine AX ?_
 have hil:i=s.length:=by omega
 subst hil;rw[bnF];exact⟨rfl,rfl⟩
end
section
open Go Go.RowKit
set_option maxRecDepth 100000
theorem ajC(neg:Bool)(ds:List UInt8)(e:Int)(hd:Digs ds)(hl:ds.length≤2000)(hp: -110000≤yC ds e∧yC ds e≤110000)(places:Nat)(hpl:places≤100000):Fn 99 [dA neg ds e,.int .i64 (places:Int)] (.tuple [.str (acP ds (yC ds e) places).1,.str (acP ds (yC ds e) places).2]):=by
 intro H;refine .of_body func99 rfl ntmps99 results99 rfl ?_;iterate 8 refine AX ?_
 refine .draw [(0,true),(2,true),(3,true),(1,false),(4,true),(5,true)] rfl aE ?_;refine AX ?_;refine .p rfl rfl (zA U61 rfl Z9 (tm rfl)) ?_;refine AX ?_;refine .s rfl rfl (zE C88 (evs1 rfl) (abU neg ds e hd _)) ?_;rintro _ _ ⟨rfl,hH⟩;obtain rfl:=hH.symm;generalize yC ds e=p at *;iterate 11 refine AX ?_
 refine .cx rfl (λhc13=>?_) (λhc13=>?_)
 ·iterate 3 refine AX ?_
  refine .cl rfl C103 (.cons (zM rfl) (evs1 rfl)) (repeatZ 48 _ places rfl aA _) ?_;iterate 7 refine AX ?_
  refine⟨?_,rfl⟩;unfold acP;rw[aM hc13];rfl
 iterate 9 refine AX ?_
 refine .cx rfl (λhc17=>?_) (λhc17=>?_)
 ·iterate 4 refine AX ?_
  refine .cl rfl C103 (.cons (zM rfl) (evs1 rfl)) (repeatZ 48 _ (-p).toNat aA aA _) ?_;refine AX ?_;refine .p rfl (zU (tm rfl) (tm rfl) (by exact abH (by simp only[aQ,aZ];omega))) ?_;iterate 15 refine AX ?_
  refine .p rfl (aaD (tm rfl) (tm rfl) (by(simp only[aQ,aZ]at *;omega))) ?_;refine AX ?_;refine .cl rfl C103 (.cons (zM rfl) (evs1 rfl)) (repeatZ 48 _ (p.toNat+places-(List.replicate (-p).toNat 48++ds:List UInt8).length) (by unfold asQ;simp only[aQ,aZ];split<;>omega) aA _) ?_;refine .p rfl (zU (tm rfl) (tm rfl) (by exact abH (by simp only[aQ,aZ];omega))) ?_;iterate 4 refine AX ?_
  refine .draw [(0,true),(1,true),(2,true),(3,true),(4,true),(5,true),(6,true),(7,true)] rfl aE ?_;iterate 12 refine AX ?_
  refine⟨?_,rfl⟩;unfold acP;rw[aL hc13];rw[show p.toNat=0 by omega];rfl
 iterate 12 refine AX ?_
 refine .cl rfl C103 (.cons (zM rfl) (evs1 rfl)) (repeatZ 48 _ (p.toNat+places-(List.replicate (-p).toNat 48++ds:List UInt8).length) (by unfold asQ;simp only[aQ,aZ];split<;>omega) aA _) ?_;refine .p rfl (zU (tm rfl) (tm rfl) (by exact abH (by simp only[aQ,aZ];omega))) ?_;iterate 4 refine AX ?_
 refine .draw [(0,true),(1,true),(2,true),(3,true),(4,true),(5,true),(6,true),(7,true)] rfl aE ?_;iterate 2 refine AX ?_
 refine .p rfl rfl (agG U9 (tm rfl) (tm rfl) aA (by(simp only[aQ,aZ]at *;omega))) ?_;iterate 2 refine AX ?_
 refine .p rfl rfl (agF U9 (tm rfl) (tm rfl) aA (by(simp only[aQ,aZ]at *;omega))) ?_;iterate 6 refine AX ?_
 refine⟨?_,rfl⟩;unfold acP;rw[aL hc13,show(-p).toNat=0 by omega];rfl
theorem aaM{l:List ItN}(h:k<l.length):l[k].text=afZ l k:=by unfold afZ;rw[aiS h]
theorem arM(h:i<a.length):(a.map bfP)[((i:Nat):Int).toNat]?=some (bfP (a.getD i 0)):=by
 show(a.map bfP)[i]?=_;rw[cD,aR h,aS,aR h];rfl
theorem auS(h:i<a.length):a.drop i=a.getD i 0::a.drop (i+1):=by
 rw[cC h,aS,aR h];rfl
theorem amE{n:Nat}(ha:∀k,k∈a→k<n)(h:i<a.length):a.getD i 0<n:=by
 rw[aS,aR h];exact ha _ (bF _)
theorem bkK(row:List UInt8):(Lib.trimRightB row 48).length=aeB row:=by unfold Lib.trimRightB aeB;rw[List.length_reverse]
theorem bfV(row:List UInt8):aeB row≤row.length:=by unfold aeB;exact bK (cX _).length_le aF
def bbR(l:List ItN)(gr:Bool)(sc:Int)(o:Loc)(b n:Nat)(row:List UInt8)(at_:List Nat)(H:Heap):Nat→Env→Heap→Prop:=λk env H1=>∃i m:Nat,i≤at_.length∧m≤100000∧aeM l i (at_.drop i) m=aeM l 0 at_ (aeB row)∧env=[(0,.iptr (shC l gr sc o b n)),(1,.str row),(2,acI at_ .shared),(6,.int .i64 (m:Int)),(14,acI at_ .shared),(15,.int .i64 (at_.length:Int)),(16,.int .i64 (i:Int))]∧H=H1∧k=at_.length-i
def bbQ(l:List ItN)(gr:Bool)(sc:Int)(o:Loc)(b n:Nat)(row:List UInt8)(at_:List Nat)(pcs:List Pc)(la:Nat)(H:Heap):Nat→Env→Heap→Prop:=λk env H1=>∃(i:Nat)(q:List Pc),i≤at_.length∧q.length=n∧qV l row la i (at_.drop i) q=qV l row la 0 at_ pcs∧env=[(0,.iptr (shC l gr sc o b n)),(1,.str row),(6,.int .i64 (la:Int)),(36,acI at_ .shared),(37,.int .i64 (at_.length:Int)),(38,.int .i64 (i:Int))]∧H1=H.set b (pcR q)∧k=at_.length-i
theorem aoO(l:List ItN)(gr:Bool)(sc:Int)(o:Loc)(b n:Nat)(row:List UInt8)(at_:List Nat)(pcs:List Pc)(hl:l.length≤100000)(hnl:n=l.length)(hpn:pcs.length=n)(hat:∀k,k∈at_→k<l.length)(hal:at_.length≤row.length)(hrl:row.length≤100000)(H:Heap)(hb:H.objs b=some (pcR pcs)):ACall prog 100 [.iptr (shC l gr sc o b n),.str row,acI at_ .shared] H (λ_ H'=>H'=H.set b (pcR (qV l row (aeM l 0 at_ (aeB row)) 0 at_ pcs))):=by
 have htz:=bkK row;have htl:=bfV row;refine ACall.of_body func100 rfl ntmps100 results100 rfl ?_;iterate 3 refine AX ?_
 refine .cl rfl call151 (.cons (tm rfl) (.cons (zM rfl) .nil)) (trimRightA 48 aC _ _) ?_;iterate 13 refine AX ?_
 refine AWP.loopW (bbR l gr sc o b n row at_ H) (at_.length) ⟨0,aeB row,Nat.zero_le _,by omega,rfl,rfl,rfl,rfl⟩ (zJ rfl (zJ rfl (zJ rfl (yD rfl (by rw[htz]) sX)))) (hRa _) ?_;rintro _ _ _ ⟨i,m,hi,hm,hinv,rfl,rfl,rfl⟩;iterate 6 refine AX ?_
 refine AWP.cond (tm rfl) (λhc17=>?_) (λhc17=>?_)
 ·try simp only[aK]at hc17
  iterate 7 refine AX ?_
  refine .p rfl (qU U30 Z3 (tm rfl) (tm rfl) aA (arM (show i<at_.length by omega))) ?_;iterate 6 refine AX ?_
  have hkl:=amE hat (show i<at_.length by omega);have hdr:=auS (show i<at_.length by omega);generalize at_.getD i 0=kk at *;iterate 3 refine AX ?_
  refine .p rfl (zA U89 rfl Z52 (tm rfl)) (.p rfl (zA U52 rfl Z50 (tm rfl)) ?_);iterate 3 refine AX ?_
  refine .p rfl (zA U57 rfl Z9 (tm rfl)) ?_;iterate 4 refine AX ?_
  refine AWP.cond (tm rfl) (λhc30=>?_) (λhc30=>?_)
  ·try simp only[aK]at hc30
   iterate 14 refine AX ?_
   refine Round.mk (J:=bbR l gr sc o b n row at_ H) ⟨i+1,max m (i+1),by omega,by omega,by rw[←hinv,hdr,aeM,aM ((aaM hkl).symm.trans hc30)],rfl,rfl,rfl⟩ (zJ rfl (zJ rfl (zJ rfl (yD rfl (by congr 1;unfold asQ;split<;>omega) sX)))) (hRa _) aA
  try simp only[aK]at hc30
  iterate 8 refine AX ?_
  refine Round.mk (J:=bbR l gr sc o b n row at_ H) ⟨i+1,m,by omega,hm,by rw[←hinv,hdr,aeM,aL (λz=>hc30 ((aaM hkl).trans z))],rfl,rfl,rfl⟩ sX (hRa _) aA
 try simp only[aK]at hc17
 iterate 6 refine AX ?_
 have hil:i=at_.length:=by omega
 subst hil;rw[List.drop_length,aeM]at hinv;generalize aeM l 0 at_ (aeB row)=la at hinv ⊢;subst hinv;iterate 7 refine AX ?_
 refine AWP.loopW (bbQ l gr sc o b n row at_ pcs m H) (at_.length) ⟨0,pcs,Nat.zero_le _,hpn,rfl,rfl,(Heap.set_self hb).symm,rfl⟩ sX (hRa _) ?_;rintro _ _ _ ⟨i,q,hi,hql,hinv,rfl,rfl,rfl⟩;iterate 6 refine AX ?_
 refine AWP.cond (tm rfl) (λhc39=>?_) (λhc39=>?_)
 ·try simp only[aK]at hc39
  iterate 7 refine AX ?_
  refine .p rfl (qU U30 Z3 (tm rfl) (tm rfl) aA (arM (show i<at_.length by omega))) ?_;iterate 6 refine AX ?_
  have hkl:=amE hat (show i<at_.length by omega);have hdr:=auS (show i<at_.length by omega);generalize at_.getD i 0=kk at *;refine AWP.draw [(0,true),(1,true),(2,true),(3,true),(4,true),(5,true),(6,true),(7,true),(8,true),(9,true),(10,true),(11,true),(12,true),(13,true),(14,true),(15,true),(16,true),(17,false)] rfl aE ?_;iterate 2 refine AX ?_
  refine .p rfl rfl (zA U89 rfl Z87 (tm rfl)) ?_;iterate 4 refine AX ?_
  refine .p rfl rfl (zA U89 rfl Z52 (tm rfl)) (.p rfl rfl (zA U52 rfl Z50 (tm rfl)) ?_);iterate 3 refine AX ?_
  refine .p rfl rfl (zA U57 rfl Z9 (tm rfl)) (.p rfl rfl (zV G9 (tm rfl)) (.p rfl rfl (yO [(0,1),(1,1)] U183 V183 (zr183) rfl (pl183 _ U183) (.cons (tm rfl) (.inl rfl) .nil) rfl) (.p rfl rfl (qP U183 rfl (tm rfl)) (.p rfl rfl (yH U87 Z147 (tm rfl) (tm rfl) aA aA) (.s0 rfl (yP Pc.av (.hl l[kk].text []) kk Z147 (tm rfl) (tm rfl) rfl rfl (oS _ _ _) aA aA) ?_)))));rintro _ _ ⟨rfl,hH⟩;obtain rfl:=hH.symm;rw[sS];iterate 9 refine AX ?_
  refine AWP.cond (tm rfl) (λhc62=>?_) (λhc62=>?_)
  ·try simp only[aK]at hc62
   refine AWP.draw [(0,true),(1,true),(2,true),(3,true),(4,true),(5,true),(6,true),(7,true),(8,true),(9,true),(10,true),(11,true),(12,true),(13,false)] rfl aE ?_;iterate 2 refine AX ?_
   refine .p rfl rfl (zA U89 rfl Z87 (tm rfl)) ?_;iterate 5 refine AX ?_
   refine .p rfl rfl (yZ (tm rfl) zG aA) (.p rfl rfl (qR U9 (tm rfl) (tm rfl) (tm rfl) aA aA aA) (.p rfl rfl (yO [(0,1)] U145 V145 (zr145) rfl (pl145 _ U145) (.cons (tm rfl) (.inl rfl) .nil) rfl) (.p rfl rfl (qP U145 rfl (tm rfl)) (.p rfl rfl (yH U87 Z147 (tm rfl) (tm rfl) aA aA) (.s0 rfl (yP Pc.av (.fx ((row.take ((i:Int)+1).toNat).drop (i:Int).toNat)) kk Z147 (tm rfl) (tm rfl) rfl rfl (oS _ _ _) aA (by rw[bX];omega)) ?_)))));rintro _ _ ⟨rfl,hH⟩;obtain rfl:=hH.symm;rw[sS,List.set_set,show((i:Int)+1).toNat=i+1 by omega,show(i:Int).toNat=i from rfl,alL (show i<row.length by omega)];iterate 8 refine AX ?_
   refine Round.mk (J:=bbQ l gr sc o b n row at_ pcs m H) ⟨i+1,_,by omega,by rw[bX];exact hql,by rw[←hinv,hdr,qV,aJ],rfl,rfl,rfl⟩ sX (hRa _) aA
  try simp only[aK]at hc62
  iterate 8 refine AX ?_
  refine Round.mk (J:=bbQ l gr sc o b n row at_ pcs m H) ⟨i+1,_,by omega,by rw[bX];exact hql,by rw[←hinv,hdr,qV,aI,aaM hkl],rfl,rfl,rfl⟩ sX (hRa _) aA
 try simp only[aK]at hc39
 iterate 4 refine AX ?_
 refine Ret.go' .nil _ (hRa _) ?_;have hil:i=at_.length:=by omega
 subst hil;rw[List.drop_length,qV]at hinv;rw[hinv]
theorem bjC(l:List ItN)(gr:Bool)(sc:Int)(o:Loc)(b n:Nat)(ho:o.ok)(hs2:o.second=2∨o.second=3)(s:List UInt8)(hs:s.length≤110000)(last:Nat)(hlast:last≤800000){z:Int}{s':List UInt8}(hz:z=(last:Int))(he:s'=s):Fn 178 [.iptr (shC l gr sc o b n),.str s',.int .i64 z] (.str (baG (aaW o gr) s last)):=by
 intro H;subst hz;subst he;exact axU l gr sc o b n ho hs2 s' hs last hlast H
theorem bnP{row:List UInt8}{pl:Nat}{x:Int}(h1:x.toNat=row.length-pl)(h0:(i:Int)=0):(row.take x.toNat).drop (Int.toNat 0)=aiP row (decide (i=0)) pl:=by
 unfold aiP;rw[h1,aP aA,aM rfl];rfl
theorem bnQ{row:List UInt8}{pl:Nat}{x y:Int}(h1:x.toNat=row.length-pl)(h2:y.toNat=row.length-1-pl)(h0:¬(i:Int)=0):(row.take x.toNat).drop y.toNat=aiP row (decide (i=0)) pl:=by
 unfold aiP;rw[h1,h2,aO aA,aL aF]
theorem auG(row:List UInt8)(fst:Bool)(pl:Nat):(aiP row fst pl).length≤row.length:=by
 unfold aiP;rw[bD,aU];omega
def bgJ(l:List ItN)(gr:Bool)(sc:Int)(o:Loc)(b n:Nat)(row:List UInt8)(at_:List Nat)(pcs:List Pc)(H:Heap):Nat→Env→Heap→Prop:=λk env H1=>∃(i:Nat)(z:Bool)(q:List Pc),i≤at_.length∧q.length=n∧aaY l (aaW o gr) row (decide (i=0)) z (at_.drop i) q=aaY l (aaW o gr) row true false at_ pcs∧env=[(0,.iptr (shC l gr sc o b n)),(1,.str row),(2,acI at_ .shared),(6,.str (if z=true then [48]else [])),(13,acI at_ .shared),(14,.int .i64 (at_.length:Int)),(15,.int .i64 (i:Int))]∧H1=H.set b (pcR q)∧k=at_.length-i
theorem afE(l:List ItN)(gr:Bool)(sc:Int)(o:Loc)(b n:Nat)(row:List UInt8)(at_:List Nat)(pcs:List Pc)(ho:o.ok)(hs2:o.second=2∨o.second=3)(hl:l.length≤100000)(hnl:n=l.length)(hpn:pcs.length=n)(hat:∀k,k∈at_→k<l.length)(hal:at_.length≤100000)(hrl:row.length≤110000)(H:Heap)(hb:H.objs b=some (pcR pcs)):ACall prog 101 [.iptr (shC l gr sc o b n),.str row,acI at_ .shared] H (λ_ H'=>H'=H.set b (pcR (aaY l (aaW o gr) row true false at_ pcs))):=by
 refine ACall.of_body func101 rfl ntmps101 results101 rfl ?_;iterate 13 refine AX ?_
 refine AWP.loopW (bgJ l gr sc o b n row at_ pcs H) (at_.length) ⟨0,false,pcs,Nat.zero_le _,hpn,rfl,rfl,(Heap.set_self hb).symm,rfl⟩ sX (hRa _) ?_;rintro _ _ _ ⟨i,z,q,hi,hql,hinv,rfl,rfl,rfl⟩;iterate 6 refine AX ?_
 refine AWP.cond (tm rfl) (λhc16=>?_) (λhc16=>?_)
 ·try simp only[aK]at hc16
  iterate 7 refine AX ?_
  refine .p rfl (qU U30 Z3 (tm rfl) (tm rfl) aA (arM (show i<at_.length by omega))) ?_;iterate 6 refine AX ?_
  have hkl:=amE hat (show i<at_.length by omega);have hdr:=auS (show i<at_.length by omega);generalize at_.getD i 0=kk at *;rw[hdr,aaY,bD]at hinv;generalize hz2:(z||decide (afZ l kk=[48]))=z2 at hinv;generalize hpl:at_.length-(i+1)=pl at hinv;iterate 13 refine AX ?_
  refine .p rfl (zA U89 rfl Z52 (tm rfl)) (.p rfl (zA U52 rfl Z50 (tm rfl)) ?_);iterate 3 refine AX ?_
  refine .p rfl (zA U57 rfl Z9 (tm rfl)) ?_;iterate 4 refine AX ?_
  refine AWP.meet (λenv H2=>env=[(0,.iptr (shC l gr sc o b n)),(1,.str row),(2,acI at_ .shared),(6,.str (if z2=true then [48]else [])),(7,.int .i64 (i:Int)),(8,.int .i64 (kk:Int)),(9,.int .i64 ((at_.length:Int)-1-(i:Int))),(10,.str (afZ l kk)),(13,acI at_ .shared),(14,.int .i64 (at_.length:Int)),(15,.int .i64 (i:Int))]∧H2=H.set b (pcR q)) ?_ ?_
  ·iterate 6 refine AX ?_
   refine AWP.cond (tm rfl) (λhc35=>?_) (λhc35=>?_)
   ·try simp only[aK]at hc35
    iterate 5 refine AX ?_
    refine Meets.mk (M:=λenv H2=>env=[(0,.iptr (shC l gr sc o b n)),(1,.str row),(2,acI at_ .shared),(6,.str (if z2=true then [48]else [])),(7,.int .i64 (i:Int)),(8,.int .i64 (kk:Int)),(9,.int .i64 ((at_.length:Int)-1-(i:Int))),(10,.str (afZ l kk)),(13,acI at_ .shared),(14,.int .i64 (at_.length:Int)),(15,.int .i64 (i:Int))]∧H2=H.set b (pcR q)) ⟨rfl,rfl⟩ (zJ rfl (zJ rfl (zJ rfl (yD rfl (by rw[show z2=true by rw[←hz2,aP ((aaM hkl).symm.trans hc35),Bool.or_true],aM rfl];exact congrArg AV.str hc35) (zJ rfl (zJ rfl (zJ rfl (yD rfl (congrArg AV.str (aaM hkl)) sX)))))))) (hRa _)
   try simp only[aK]at hc35
   iterate 2 refine AX ?_
   refine Meets.mk (M:=λenv H2=>env=[(0,.iptr (shC l gr sc o b n)),(1,.str row),(2,acI at_ .shared),(6,.str (if z2=true then [48]else [])),(7,.int .i64 (i:Int)),(8,.int .i64 (kk:Int)),(9,.int .i64 ((at_.length:Int)-1-(i:Int))),(10,.str (afZ l kk)),(13,acI at_ .shared),(14,.int .i64 (at_.length:Int)),(15,.int .i64 (i:Int))]∧H2=H.set b (pcR q)) ⟨rfl,rfl⟩ (zJ rfl (zJ rfl (zJ rfl (yD rfl (by rw[←hz2,aO (λw=>hc35 ((aaM hkl).trans w)),Bool.or_false]) (zJ rfl (zJ rfl (zJ rfl (yD rfl (congrArg AV.str (aaM hkl)) sX)))))))) (hRa _)
  rintro _ _ ⟨rfl,rfl⟩;refine AWP.meet (λenv H2=>env=[(0,.iptr (shC l gr sc o b n)),(1,.str row),(2,acI at_ .shared),(6,.str (if z2=true then [48]else [])),(7,.int .i64 (i:Int)),(8,.int .i64 (kk:Int)),(9,.int .i64 ((at_.length:Int)-1-(i:Int))),(10,.str (if z2=true then [48]else afZ l kk)),(13,acI at_ .shared),(14,.int .i64 (at_.length:Int)),(15,.int .i64 (i:Int))]∧H2=H.set b (pcR q)) ?_ ?_
  ·iterate 6 refine AX ?_
   refine AWP.cond (tm rfl) (λhc38=>?_) (λhc38=>?_)
   ·try simp only[aK]at hc38
    iterate 5 refine AX ?_
    refine Meets.mk (M:=λenv H2=>env=[(0,.iptr (shC l gr sc o b n)),(1,.str row),(2,acI at_ .shared),(6,.str (if z2=true then [48]else [])),(7,.int .i64 (i:Int)),(8,.int .i64 (kk:Int)),(9,.int .i64 ((at_.length:Int)-1-(i:Int))),(10,.str (if z2=true then [48]else afZ l kk)),(13,acI at_ .shared),(14,.int .i64 (at_.length:Int)),(15,.int .i64 (i:Int))]∧H2=H.set b (pcR q)) ⟨rfl,rfl⟩ (zJ rfl (zJ rfl (zJ rfl (zJ rfl (zJ rfl (zJ rfl (zJ rfl (yD rfl (by cases z2 with|true=>rfl|false=>exact absurd rfl hc38) sX)))))))) (hRa _)
   try simp only[aK]at hc38
   iterate 2 refine AX ?_
   refine Meets.mk (M:=λenv H2=>env=[(0,.iptr (shC l gr sc o b n)),(1,.str row),(2,acI at_ .shared),(6,.str (if z2=true then [48]else [])),(7,.int .i64 (i:Int)),(8,.int .i64 (kk:Int)),(9,.int .i64 ((at_.length:Int)-1-(i:Int))),(10,.str (if z2=true then [48]else afZ l kk)),(13,acI at_ .shared),(14,.int .i64 (at_.length:Int)),(15,.int .i64 (i:Int))]∧H2=H.set b (pcR q)) ⟨rfl,rfl⟩ (zJ rfl (zJ rfl (zJ rfl (zJ rfl (zJ rfl (zJ rfl (zJ rfl (yD rfl (by cases z2 with|true=>exact absurd hc38 aF|false=>rfl) sX)))))))) (hRa _)
  rintro _ _ ⟨rfl,rfl⟩;iterate 9 refine AX ?_
  refine AWP.cond (tm rfl) (λhc43=>?_) (λhc43=>?_)
  ·try simp only[aK]at hc43
   refine AX ?_;refine AWP.draw [(0,true),(1,true),(2,true),(3,true),(4,true),(5,true),(6,true),(7,true),(8,true),(9,true),(10,true),(11,true),(12,false)] rfl aE ?_;iterate 2 refine AX ?_
   refine .p rfl rfl (zA U89 rfl Z87 (tm rfl)) ?_;iterate 3 refine AX ?_
   refine .p rfl rfl (zD (tm rfl)) (.p rfl rfl (zD (tm rfl)) ?_);refine APlan.f rfl rfl (λ_=>zE call177 (evs2 rfl rfl) (bbS _ _ _ _ _ _ hs2 pl aA aA _)) ?_;refine .p rfl rfl (yO [(0,1),(1,1)] U183 V183 (zr183) rfl (pl183 _ U183) (.cons (tm rfl) (.inl rfl) (.cons (tm rfl) (.inl rfl) .nil)) rfl) (.p rfl rfl (qP U183 rfl (tm rfl)) (.p rfl rfl (yH U87 Z147 (tm rfl) (tm rfl) aA aA) (.s0 rfl (yP Pc.av (.hl (if z2=true then [48]else afZ l kk) (aaW o gr pl)) kk Z147 (tm rfl) (tm rfl) rfl rfl (oS _ _ _) aA aA) ?_)));rintro _ _ ⟨rfl,hH⟩;obtain rfl:=hH.symm;rw[sS];iterate 11 refine AX ?_
   refine Round.mk (J:=bgJ l gr sc o b n row at_ pcs H) ⟨i+1,z2,_,by omega,by rw[bX];exact hql,by rw[show decide (i+1=0)=false by simp,←hinv,aM (show row.length≤pl by omega)],rfl,rfl,rfl⟩ sX (hRa _) aA
  try simp only[aK]at hc43
  iterate 25 refine AX ?_
  refine AWP.cond (tm rfl) (λhc63=>?_) (λhc63=>?_)
  ·try simp only[aK]at hc63
   iterate 4 refine AX ?_
   refine AWP.draw [(0,true),(1,true),(2,true),(3,true),(4,true),(5,true),(6,true),(7,true),(8,true),(9,true),(10,true),(11,true),(12,false),(13,true),(14,true),(15,true),(16,false)] rfl aE ?_;iterate 2 refine AX ?_
   refine .p rfl rfl (zA U89 rfl Z87 (tm rfl)) ?_;iterate 7 refine AX ?_
   refine .p rfl rfl (qR U9 (tm rfl) (tm rfl) (tm rfl) aA aA aA) (.p rfl rfl (zD (tm rfl)) ?_);refine .s rfl rfl (zE call178 (evs3 rfl rfl rfl) (bjC _ _ _ _ _ _ ho hs2 (aiP row (decide (i=0)) pl) (by have:=auG row (decide (i=0)) pl;omega) pl aA aA (bnP aA hc63) _)) ?_;rintro _ _ ⟨rfl,hH⟩;obtain rfl:=hH.symm;refine .p rfl rfl (yO [(0,1)] U145 V145 (zr145) rfl (pl145 _ U145) (.cons (tm rfl) (.inl rfl) .nil) rfl) (.p rfl rfl (qP U145 rfl (tm rfl)) (.p rfl rfl (yH U87 Z147 (tm rfl) (tm rfl) aA aA) (.s0 rfl (yP Pc.av (.fx (baG (aaW o gr) (aiP row (decide (i=0)) pl) pl)) kk Z147 (tm rfl) (tm rfl) rfl rfl (oS _ _ _) aA aA) ?_)));rintro _ _ ⟨rfl,hH⟩;obtain rfl:=hH.symm;rw[sS];iterate 8 refine AX ?_
   refine Round.mk (J:=bgJ l gr sc o b n row at_ pcs H) ⟨i+1,z2,_,by omega,by rw[bX];exact hql,by rw[show decide (i+1=0)=false by simp,←hinv,aL (show¬row.length≤pl by omega)],rfl,rfl,rfl⟩ sX (hRa _) aA
  try simp only[aK]at hc63
  iterate 2 refine AX ?_
  refine AWP.draw [(0,true),(1,true),(2,true),(3,true),(4,true),(5,true),(6,true),(7,true),(8,true),(9,true),(10,true),(11,true),(12,false),(13,true),(14,true),(15,true),(16,false)] rfl aE ?_;iterate 2 refine AX ?_
  refine .p rfl rfl (zA U89 rfl Z87 (tm rfl)) ?_;iterate 7 refine AX ?_
  refine .p rfl rfl (qR U9 (tm rfl) (tm rfl) (tm rfl) aA aA aA) (.p rfl rfl (zD (tm rfl)) ?_);refine .s rfl rfl (zE call178 (evs3 rfl rfl rfl) (bjC _ _ _ _ _ _ ho hs2 (aiP row (decide (i=0)) pl) (by have:=auG row (decide (i=0)) pl;omega) pl aA aA (bnQ aA aA hc63) _)) ?_;rintro _ _ ⟨rfl,hH⟩;obtain rfl:=hH.symm;refine .p rfl rfl (yO [(0,1)] U145 V145 (zr145) rfl (pl145 _ U145) (.cons (tm rfl) (.inl rfl) .nil) rfl) (.p rfl rfl (qP U145 rfl (tm rfl)) (.p rfl rfl (yH U87 Z147 (tm rfl) (tm rfl) aA aA) (.s0 rfl (yP Pc.av (.fx (baG (aaW o gr) (aiP row (decide (i=0)) pl) pl)) kk Z147 (tm rfl) (tm rfl) rfl rfl (oS _ _ _) aA aA) ?_)));rintro _ _ ⟨rfl,hH⟩;obtain rfl:=hH.symm;rw[sS];iterate 8 refine AX ?_
  refine Round.mk (J:=bgJ l gr sc o b n row at_ pcs H) ⟨i+1,z2,_,by omega,by rw[bX];exact hql,by rw[show decide (i+1=0)=false by simp,←hinv,aL (show¬row.length≤pl by omega)],rfl,rfl,rfl⟩ sX (hRa _) aA
 try simp only[aK]at hc16
 iterate 4 refine AX ?_
 refine Ret.go' .nil _ (hRa _) ?_;have hil:i=at_.length:=by omega
 subst hil;rw[List.drop_length,aaY]at hinv;rw[hinv]
end
end Go.Proofs.YteedncdcbgplfaaGreatDoor
