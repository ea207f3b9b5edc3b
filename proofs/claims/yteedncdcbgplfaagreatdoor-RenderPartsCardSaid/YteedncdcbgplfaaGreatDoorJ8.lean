import Derived.Test.YteedncdcbgplfaaGreatDoorJ7
set_option maxHeartbeats 1000000
namespace Go.Proofs.YteedncdcbgplfaaGreatDoor
open Go.Proofs.Tryz
open Go Go.RowKit
variable{o:Loc}{i k:Nat}{a:List Nat}
def adW(ds:List UInt8)(p:Int)(places:Nat):List UInt8×List UInt8:=
 if ds=[]then([],List.replicate places 48)
 else((List.replicate (-p).toNat 48++ds++List.replicate (p.toNat+places-(List.replicate (-p).toNat 48++ds:List UInt8).length) 48).take p.toNat,
   (List.replicate (-p).toNat 48++ds++List.replicate (p.toNat+places-(List.replicate (-p).toNat 48++ds:List UInt8).length) 48).drop p.toNat)
def atR(ds:List UInt8)(i:Int):UInt8:=if i<0∨(ds.length:Int)≤i then 48 else ds.getD i.toNat 0
def bpX(ds:List UInt8)(p:Int)(places:Nat):List UInt8×List UInt8:=
 if ds=[]then([],(List.range places).map λi=>atR ds (p+(i:Nat)))else((List.range p.toNat).map λi=>atR ds (i:Nat),(List.range places).map λi=>atR ds (p+(i:Nat)))
theorem bkK{ds:List UInt8}{p:Int}{places:Nat}(h:ds=[]∨(ds.length:Int)≤p+places):bpX ds p places=adW ds p places:=by
 unfold bpX adW;by_cases h0:ds=[]
 ·rw[aN h0,aN h0];subst h0;refine congrArg _ (cR aF λi h1 h2=>?_);simp only[List.getElem_map,List.getElem_range,List.getElem_replicate,atR];rw[aN];simp;omega
 rw[aM h0,aM h0];have hl:(ds.length:Int)≤p+places:=h.resolve_left h0;have hp:=bK.2 h0;have tl:(List.replicate (-p).toNat 48++ds++List.replicate (p.toNat+places-(List.replicate (-p).toNat 48++ds:List UInt8).length) 48).length=p.toNat+places:=by
  simp only[aR,bA];omega
 have tg:∀i,i<p.toNat+places→(List.replicate (-p).toNat 48++ds++List.replicate (p.toNat+places-(List.replicate (-p).toNat 48++ds:List UInt8).length) 48)[i]?=some (atR ds ((i:Int)-(-p).toNat)):=by
  intro i hi;unfold atR;by_cases h1:i<(-p).toNat
  ·rw[aN (.inl aA),bF,dB (by simpa using h1)];simp[h1]
  by_cases h2:i<(-p).toNat+ds.length
  ·rw[aJ,dB aG,eG aG,bA,aS,show((i:Int)-(-p).toNat).toNat=i-(-p).toNat by omega,aV aA];rfl
  rw[aN (.inr aA),eG aG,List.getElem?_replicate,aN (by simp at tl ⊢;omega)]
 generalize(List.replicate (-p).toNat 48++ds++List.replicate (p.toNat+places-(List.replicate (-p).toNat 48++ds:List UInt8).length) 48)=t at *;refine Prod.ext (List.ext_getElem? λi=>?_) (List.ext_getElem? λi=>?_)
 ·show((List.range p.toNat).map _)[i]?=(t.take p.toNat)[i]?;by_cases hi:i<p.toNat
  ·rw[dZ hi,tg i aA,cH,List.getElem?_range hi];show some (atR ds i)=_;congr 2;omega
  rw[fK aG,fK aG]
 show((List.range places).map _)[i]?=(t.drop p.toNat)[i]?;rw[cV];by_cases hi:i<places
 ·rw[tg _ aA,cH,List.getElem?_range hi];show some (atR ds (p+i))=_;congr 2;omega
 rw[fK aG,fK aA]
theorem bfE{ds:List UInt8}{p:Int}{places:Nat}(h:ds=[]∨(ds.length:Int)≤p+places):(adW ds p places).2.length=places:=by
 rw[←bkK h];unfold bpX;split<;>simp
def aiV(a:Int)(n:Nat):Int:=a/(n:Int)
theorem bgX(a:Int)(n:Nat)(hn:0<n):aiV a n=(if a.tmod n<0 then a.tdiv n-1 else a.tdiv n):=by
 unfold aiV;have hnz:(n:Int)≠0:=by omega
 have h:=Int.mul_tdiv_add_tmod a n;have h2:=Int.mul_ediv_add_emod a n;have h3:=Int.emod_nonneg a hnz;have h4:=Int.emod_lt_of_pos a (show(0:Int)<n by omega);rcases(show a<0∨0≤a by omega)with ha|ha
 ·have e:(-a).tdiv n=(-a)/n:=Int.tdiv_eq_ediv_of_nonneg aA;have m1:a.tdiv n= -((-a)/n):=by rw[←e,Int.neg_tdiv];omega
  have g1:=Int.mul_ediv_add_emod (-a) n;have g3:=Int.emod_nonneg (-a) hnz;have g4:=Int.emod_lt_of_pos (-a) (show(0:Int)<n by omega);rw[m1]at h ⊢;generalize(-a)/(n:Int)=u at *;generalize a/(n:Int)=v at *;have k1:(n:Int)* -u= -((n:Int)*u):=Int.mul_neg _ _;split
  ·rename_i hlt
   have:(n:Int)*(v+u)=(n:Int)*v+(n:Int)*u:=Int.mul_add _ _ _;have hx:(n:Int)*(v+u)<0∧ -(2*(n:Int))<(n:Int)*(v+u):=by omega
   have:v+u= -1:=by
    rcases(show(v+u)<0∨0≤(v+u) by omega)with q|q
    ·rcases(show(v+u)<(-1)∨(-1)≤(v+u) by omega)with q2|q2
     ·have:=Int.mul_le_mul_of_nonneg_left (show v+u≤ -2 by omega) (show(0:Int)≤n by omega);omega
     omega
    have:=Int.mul_nonneg (show(0:Int)≤n by omega) q;omega
   omega
  rename_i hlt
  have:(n:Int)*(v+u)=(n:Int)*v+(n:Int)*u:=Int.mul_add _ _ _;have hx:(n:Int)*(v+u)<(n:Int)∧ -(n:Int)<(n:Int)*(v+u):=by omega
  have:v+u=0:=by
   rcases(show(v+u)<0∨0≤(v+u) by omega)with q|q
   ·have:=Int.mul_le_mul_of_nonneg_left (show v+u≤ -1 by omega) (show(0:Int)≤n by omega);omega
   rcases(show 0<(v+u)∨(v+u)≤0 by omega)with q2|q2
   ·have:=Int.mul_le_mul_of_nonneg_left (show 1≤v+u by omega) (show(0:Int)≤n by omega);omega
   omega
  omega
 rw[Int.tdiv_eq_ediv_of_nonneg ha]at *;rw[aM];have:=Int.tmod_nonneg (n:Int) ha;omega
theorem bgY{p e:Int}{n:Nat}(hn:0<n)(c:Int)(hc:e=n*c)(h1:1≤p-e)(h2:p-e≤n):e=n*aiV (p-1) n:=by
 unfold aiV;have:(p-1)/(n:Int)=c:=by
  have e2:p-1=(p-1-e)+n*c:=by omega
  rw[e2,Int.add_mul_ediv_left _ _ aA,Int.ediv_eq_zero_of_lt aA aA];omega
 rw[this,hc]
section
open Go Go.RowKit
set_option maxRecDepth 100000
def szI(sec i:Nat):Int:=if i=0 then 3 else sec
def zI(sec k i:Nat):Int:=(k:Int)-(if i=0 then 0 else 3+sec*((i-1:Nat):Int))
theorem bzR(sec k i:Nat):zI sec k (i+1)=zI sec k i-szI sec i:=by
 unfold zI szI;by_cases h:i=0
 ·subst h;simp
 rw[aJ,aM h,aM h,show((i+1-1:Nat):Int)=((i-1:Nat):Int)+1 by omega,Int.mul_add];omega
theorem bxG(sec k:Nat):zI sec k 0=(k:Int):=by unfold zI;simp
theorem bzH(sec k j:Nat):zI sec k (j+1)=(k:Int)-(3+sec*(j:Int)):=by unfold zI;rw[aJ];rfl
theorem szE(hs2:o.second=2∨o.second=3)(i:Nat):((if o.second=2 then [3,2]else [3]:List Int).map (AV.int .i64))[(asW (i:Int) (((if o.second=2 then [3,2]else [3]:List Int).length:Int)-1)).toNat]?=some (.int .i64 (szI o.second i)):=by
 rcases hs2 with h|h<;>rw[h]
 ·match i with
  |0=>rfl
  |1=>rfl
  |i+2=>
   have:asW ((i+2:Nat):Int) (((([3,2]:List Int)).length:Int)-1)=1:=by unfold asW;split<;>(simp at *;try omega)
   simp only[if_true];rw[this];rfl
 match i with
 |0=>rfl
 |i+1=>
  have:asW ((i+1:Nat):Int) (((([3]:List Int)).length:Int)-1)=0:=by unfold asW;split<;>(simp at *;try omega)
  simp only[show((3:Nat)=2)=False by simp,if_false];rw[this];rfl
theorem buH(hs2:o.second=2∨o.second=3)(h0:¬k=0)(h1:i=0∨0<zI o.second k (i-1))(h2:zI o.second k i≤0):(zI o.second k i<0→qV o true k=[])∧(¬zI o.second k i<0→qV o true k=o.grp):=by
 match i with
 |0=>rw[bxG]at h2;omega
 |1=>
  have h1:0<zI o.second k 0:=h1.resolve_left aA;rw[bxG]at h1;have e:zI o.second k 1=(k:Int)-3:=by rw[show(1:Nat)=0+1 from rfl,bzH];simp
  rw[e]at h2 ⊢;unfold qV;constructor
  ·intro h;rw[aM (by rintro⟨_,h3,_⟩;omega)]
  intro h;have:k=3:=by omega
  subst this;rw[aN ⟨rfl,by omega,by simp⟩]
 |j+2=>
  have h1:0<zI o.second k (j+1):=h1.resolve_left aA;rw[bzH]at h1;have e:zI o.second k (j+2)=(k:Int)-(3+o.second*((j+1:Nat):Int)):=bzH _ _ _;rw[e]at h2 ⊢;clear e;unfold qV;rcases hs2 with e|e<;>rw[e]at h1 h2 ⊢ <;>constructor<;>intro h
  ·rw[aM (by rintro⟨_,h3,h4⟩;omega)]
  ·rw[aN ⟨rfl,by omega,by omega⟩]
  ·rw[aM (by rintro⟨_,h3,h4⟩;omega)]
  rw[aN ⟨rfl,by omega,by omega⟩]
theorem btV{gr:Bool}(h:gr=false∨k=0):qV o gr k=[]:=by
 unfold qV;rw[aM];rintro⟨h1,h2,_⟩;rcases h with h|h
 ·rw[h]at h1;cases h1
 omega
theorem adF(ho:o.ok)(gr:Bool)(k:Nat):(qV o gr k).length≤10:=by
 unfold qV;split
 ·exact ho.2.1
 simp
theorem buU(hs2:o.second=2∨o.second=3)(i:Nat):2≤szI o.second i∧szI o.second i≤3:=by
 unfold szI;split<;>omega
def bkO(l:List ItN)(gr:Bool)(sc:Int)(o:Loc)(b n:Nat)(q:Nat)(H:Heap):Nat→Env→Heap→Prop:=λk env H1=>∃i:Nat,(i=0∨0<zI o.second q (i-1))∧i≤q+1∧zI o.second q i+2*i≤q+3∧ -3≤zI o.second q i∧env=[(0,.iptr (shC l gr sc o b n)),(1,.int .i64 (zI o.second q i)),(5,.int .i64 (i:Int))]∧H=H1∧k=(zI o.second q i).toNat
theorem baI(l:List ItN)(gr:Bool)(sc:Int)(o:Loc)(b n:Nat)(hs2:o.second=2∨o.second=3)(q:Nat)(hq:q≤1000000):Fn 177 [.iptr (shC l gr sc o b n),.int .i64 (q:Int)] (.str (qV o gr q)):=by
 intro H;refine .of_body func177 rfl ntmps177 results177 rfl ?_;iterate 6 refine AX ?_
 refine .seqTo 15 (.bool (decide (gr=false∨q=0))) [0,1,4] ?_ ?_
 ·iterate 3 refine AX ?_
  refine .p rfl (zA U89 rfl Z52 (tm rfl)) (.p rfl (zA U52 rfl Z4 (tm rfl)) ?_);iterate 3 refine AX ?_
  refine zC (t:=12) rfl (λhg12=>?_) (λhg12=>?_)
  ·have hh12:=hg12;try simp only[aL]at hh12
   iterate 4 refine AX ?_
   exact⟨rfl,zO rfl (by(refine Eq.symm ?_;first|exact aQ (.inl hh12)|exact aO.2 ⟨λh=>by rcases h with h|h;exact absurd h (by rw[hh12];simp);omega,λh=>.inr aA⟩)) sX,rfl⟩
  have hh12:=hg12;try simp only[aL]at hh12
  iterate 4 refine AX ?_
  exact⟨rfl,zO rfl (by(refine Eq.symm ?_;first|exact aQ (.inl hh12)|exact aO.2 ⟨λh=>by rcases h with h|h;exact absurd h (by rw[hh12];simp);omega,λh=>.inr aA⟩)) sX,rfl⟩
 refine .sub [(15,_),(0,_),(1,_),(4,_)] sX ?_;refine .cx rfl (λhc15=>?_) (λhc15=>?_)
 ·iterate 8 refine AX ?_
  refine⟨?_,rfl⟩;rw[btV hc15];rfl
 iterate 9 refine AX ?_
 refine .loopW (bkO l gr sc o b n q H) (q) ⟨0,.inl rfl,Nat.zero_le _,by rw[bxG];omega,by rw[bxG];omega,rfl,rfl,by rw[bxG];rfl⟩ (zF rfl (zU rfl (by rw[bxG]) (zF rfl zW))) (hRa _) ?_;rintro _ _ _ ⟨i,hi0,hiq,hz4,hz5,rfl,rfl,hk⟩;iterate 7 refine AX ?_
 refine .cx rfl (λhc17=>?_) (λhc17=>?_)
 ·have hzs:=bzR o.second q i;obtain⟨hz1,hz2⟩:=buU hs2 i;iterate 4 refine AX ?_
  refine .draw [(0,true),(1,true),(2,true),(3,true),(4,true),(5,true),(6,true),(7,true),(8,true),(9,true),(10,true),(11,true),(12,true),(13,true),(14,true),(15,true),(16,true),(17,true),(18,true)] rfl aE ?_;iterate 3 refine AX ?_
  refine .p rfl rfl (zA U89 rfl Z32 (tm rfl)) (.p rfl rfl (zA U32 rfl Z30 (tm rfl)) ?_);iterate 4 refine AX ?_
  refine .p rfl rfl (zA U89 rfl Z32 (tm rfl)) (.p rfl rfl (zA U32 rfl Z30 (tm rfl)) ?_);iterate 2 refine AX ?_
  refine .p rfl rfl (qY (tm rfl) zJ (by split<;>simp)) ?_;refine AX ?_;refine .p rfl rfl (qA U30 Z3 (tm rfl) (tm rfl) (by unfold asW;split<;>(try split)<;>simp<;>omega) (szE hs2 i)) ?_;iterate 12 refine AX ?_
  refine Round.mk ⟨i+1,.inr (by rw[show i+1-1=i from rfl];omega),by omega,by rw[hzs];omega,by rw[hzs];omega,rfl,rfl,rfl⟩ (zF rfl (zU rfl (by rw[hzs]) (zF rfl zW))) (hRa _) aA
 have hgt:gr=true:=by
  cases hgg:gr with
  |true=>rfl
  |false=>exact absurd (.inl hgg) hc15
 obtain⟨hm1,hm2⟩:=buH hs2 (k:=q) (i:=i) (λe=>hc15 (.inr e)) hi0 aA;iterate 12 refine AX ?_
 refine .cx rfl (λhc39=>?_) (λhc39=>?_)
 ·iterate 8 refine AX ?_
  refine⟨?_,rfl⟩;rw[hgt,hm1 hc39];rfl
 iterate 6 refine AX ?_
 refine .p rfl (zA U89 rfl Z32 (tm rfl)) (.p rfl (zA U32 rfl Z9 (tm rfl)) ?_);iterate 6 refine AX ?_
 refine⟨?_,rfl⟩;rw[hgt,hm2 aA];rfl
theorem bkN(l:List ItN)(gr:Bool)(sc:Int)(o:Loc)(b n:Nat)(hs2:o.second=2∨o.second=3)(q:Nat)(hq:q≤1000000){z:Int}(hz:z=(q:Int)):Fn 177 [.iptr (shC l gr sc o b n),.int .i64 z] (.str (qV o gr q)):=by
 intro H;subst hz;exact baI l gr sc o b n hs2 q hq H
def baD(mk:Nat→List UInt8)(s:List UInt8)(last:Nat):Nat→List UInt8
 |0=>[]
 |i+1=>baD mk s last i++(s.getD i 0::mk (last+(s.length-1-i)))
theorem bpS(mk:Nat→List UInt8)(s:List UInt8)(last:Nat)(a r:List UInt8)(h:s=a++r):baD mk s last s.length=baD mk s last a.length++aqV mk r last:=by
 induction r generalizing a with
 |nil=>rw[h];simp[aqV]
 |cons x r ih=>
  rw[ih (a++[x]) (by rw[h];simp),aR,fL,baD,aqV,bF];rw[show s.getD a.length 0=x by rw[h];simp,show s.length-1-a.length=r.length by rw[h];simp]
theorem bkA(mk:Nat→List UInt8)(s:List UInt8)(last:Nat):baD mk s last s.length=aqV mk s last:=by
 rw[bpS mk s last [] s rfl];rfl
theorem alP{mk:Nat→List UInt8}(hm:∀k,(mk k).length≤10)(s:List UInt8)(last i:Nat):(baD mk s last i).length≤11*i:=by
 induction i with
 |zero=>simp[baD]
 |succ i ih=>rw[baD,aR,aX];have:=hm (last+(s.length-1-i));omega
theorem ahP{s:List UInt8}(h:i<s.length):(s.take (i+1)).drop i=[s.getD i 0]:=by
 rw[←bP h,List.drop_append_of_le_length aG,dQ aG];simp[aV h]
def btA(l:List ItN)(gr:Bool)(sc:Int)(o:Loc)(b n:Nat)(s:List UInt8)(last:Nat)(H:Heap):Nat→Env→Heap→Prop:=λk env H1=>∃i:Nat,i≤s.length∧env=[(0,.iptr (shC l gr sc o b n)),(1,.str s),(2,.int .i64 (last:Int)),(7,.str (baD (qV o gr) s last i)),(10,.int .i64 (s.length:Int)),(11,.int .i64 (i:Int))]∧H=H1∧k=s.length-i
theorem bfK(l:List ItN)(gr:Bool)(sc:Int)(o:Loc)(b n:Nat)(ho:o.ok)(hs2:o.second=2∨o.second=3)(s:List UInt8)(hs:s.length≤110000)(last:Nat)(hlast:last≤800000):Fn 178 [.iptr (shC l gr sc o b n),.str s,.int .i64 (last:Int)] (.str (aqV (qV o gr) s last)):=by
 intro H;refine .of_body func178 rfl ntmps178 results178 rfl ?_;iterate 19 refine AX ?_
 refine .loopW (btA l gr sc o b n s last H) (s.length) ⟨0,Nat.zero_le _,rfl,rfl,rfl⟩ sX (hRa _) ?_;rintro _ _ _ ⟨i,hi,rfl,rfl,rfl⟩;iterate 6 refine AX ?_
 refine .cx rfl (λhc12=>?_) (λhc12=>?_)
 ·iterate 10 refine AX ?_
  refine .draw [(0,true),(1,true),(2,true),(3,true),(4,true),(5,true),(6,true),(7,true),(8,true),(9,true),(10,true),(11,true),(12,true),(13,true),(14,true),(15,true),(16,true),(17,true)] rfl aE ?_;iterate 14 refine AX ?_
  refine .f rfl rfl (λ_=>zD call177 (evs2 rfl rfl) (bkN _ _ _ _ _ _ hs2 (last+(s.length-1-i)) aA aA _)) ?_;refine .p rfl rfl (zQ (tm rfl) (tm rfl) (by have h1:=adF ho gr (last+(s.length-1-i));rw[zN];simp only[bC,aU];omega)) ?_;refine .p rfl rfl (zQ (tm rfl) (tm rfl) (by have h1:=adF ho gr (last+(s.length-1-i));have h2:=alP (adF ho gr) s last i;rw[zN];simp only[bC,aU,aR];omega)) ?_;iterate 9 refine AX ?_
  refine Round.mk ⟨i+1,by omega,rfl,rfl,rfl⟩ (zF rfl (zF rfl (zF rfl (zU rfl (by rw[baD,show((i:Int)+1).toNat=i+1 by omega,show(i:Int).toNat=i from rfl,ahP (show i<s.length by omega)];rfl) sX)))) (hRa _) aA
 iterate 13 refine AX ?_
 have hil:i=s.length:=by omega
 subst hil;rw[bkA];exact⟨rfl,rfl⟩
end
section
open Go Go.RowKit
set_option maxRecDepth 100000
theorem amP(neg:Bool)(ds:List UInt8)(e:Int)(hd:Digs ds)(hl:ds.length≤2000)(hp: -110000≤yF ds e∧yF ds e≤110000)(places:Nat)(hpl:places≤100000):Fn 99 [dA neg ds e,.int .i64 (places:Int)] (.tuple [.str (adW ds (yF ds e) places).1,.str (adW ds (yF ds e) places).2]):=by
 intro H;refine .of_body func99 rfl ntmps99 results99 rfl ?_;iterate 8 refine AX ?_
 refine .draw [(0,true),(2,true),(3,true),(1,false),(4,true),(5,true)] rfl aE ?_;refine AX ?_;refine .p rfl rfl (zA U61 rfl Z9 (tm rfl)) ?_;refine AX ?_;refine .s rfl rfl (zD C88 (evs1 rfl) (adJ neg ds e hd _)) ?_;rintro _ _ ⟨rfl,hH⟩;obtain rfl:=hH.symm;generalize yF ds e=p at *;iterate 11 refine AX ?_
 refine .cx rfl (λhc13=>?_) (λhc13=>?_)
 ·iterate 3 refine AX ?_
  refine .cl rfl C103 (.cons (zS rfl) (evs1 rfl)) (repeatZ 48 _ places rfl aA _) ?_;iterate 7 refine AX ?_
  refine⟨?_,rfl⟩;unfold adW;rw[aN hc13];rfl
 iterate 9 refine AX ?_
 refine .cx rfl (λhc17=>?_) (λhc17=>?_)
 ·iterate 4 refine AX ?_
  refine .cl rfl C103 (.cons (zS rfl) (evs1 rfl)) (repeatZ 48 _ (-p).toNat aA aA _) ?_;refine AX ?_;refine .p rfl (zQ (tm rfl) (tm rfl) (by exact abZ (by simp only[bA];omega))) ?_;iterate 15 refine AX ?_
  refine .p rfl (qY (tm rfl) (tm rfl) (by(simp only[aR,bA]at *;omega))) ?_;refine AX ?_;refine .cl rfl C103 (.cons (zS rfl) (evs1 rfl)) (repeatZ 48 _ (p.toNat+places-(List.replicate (-p).toNat 48++ds:List UInt8).length) (by unfold asX;simp only[aR,bA];split<;>omega) aA _) ?_;refine .p rfl (zQ (tm rfl) (tm rfl) (by exact abZ (by simp only[aR,bA];omega))) ?_;iterate 4 refine AX ?_
  refine .draw [(0,true),(1,true),(2,true),(3,true),(4,true),(5,true),(6,true),(7,true)] rfl aE ?_;iterate 12 refine AX ?_
  refine⟨?_,rfl⟩;unfold adW;rw[aM hc13];rw[show p.toNat=0 by omega];rfl
 iterate 12 refine AX ?_
 refine .cl rfl C103 (.cons (zS rfl) (evs1 rfl)) (repeatZ 48 _ (p.toNat+places-(List.replicate (-p).toNat 48++ds:List UInt8).length) (by unfold asX;simp only[aR,bA];split<;>omega) aA _) ?_;refine .p rfl (zQ (tm rfl) (tm rfl) (by exact abZ (by simp only[aR,bA];omega))) ?_;iterate 4 refine AX ?_
 refine .draw [(0,true),(1,true),(2,true),(3,true),(4,true),(5,true),(6,true),(7,true)] rfl aE ?_;iterate 2 refine AX ?_
 refine .p rfl rfl (aiS U9 (tm rfl) (tm rfl) aA (by(simp only[aR,bA]at *;omega))) ?_;iterate 2 refine AX ?_
 refine .p rfl rfl (aiR U9 (tm rfl) (tm rfl) aA (by(simp only[aR,bA]at *;omega))) ?_;iterate 6 refine AX ?_
 refine⟨?_,rfl⟩;unfold adW;rw[aM hc13,show(-p).toNat=0 by omega];rfl
theorem qG{l:List ItN}(h:k<l.length):l[k].text=aaV l k:=by unfold aaV;rw[amA h]
theorem asP(h:i<a.length):(a.map biR)[((i:Nat):Int).toNat]?=some (biR (a.getD i 0)):=by
 show(a.map biR)[i]?=_;rw[cH,aV h,aS,aV h];rfl
theorem amD(h:i<a.length):a.drop i=a.getD i 0::a.drop (i+1):=by
 rw[cK h,aS,aV h];rfl
theorem afO{n:Nat}(ha:∀k,k∈a→k<n)(h:i<a.length):a.getD i 0<n:=by
 rw[aS,aV h];exact ha _ (bM _)
theorem buR(row:List UInt8):(Lib.trimRightB row 48).length=adY row:=by unfold Lib.trimRightB adY;rw[eK]
theorem bpA(row:List UInt8):adY row≤row.length:=by unfold adY;exact bH (dS _).length_le aF
def bkH(l:List ItN)(gr:Bool)(sc:Int)(o:Loc)(b n:Nat)(row:List UInt8)(at_:List Nat)(H:Heap):Nat→Env→Heap→Prop:=λk env H1=>∃i m:Nat,i≤at_.length∧m≤100000∧abG l i (at_.drop i) m=abG l 0 at_ (adY row)∧env=[(0,.iptr (shC l gr sc o b n)),(1,.str row),(2,abB at_ .shared),(6,.int .i64 (m:Int)),(14,abB at_ .shared),(15,.int .i64 (at_.length:Int)),(16,.int .i64 (i:Int))]∧H=H1∧k=at_.length-i
def bkG(l:List ItN)(gr:Bool)(sc:Int)(o:Loc)(b n:Nat)(row:List UInt8)(at_:List Nat)(pcs:List Pc)(la:Nat)(H:Heap):Nat→Env→Heap→Prop:=λk env H1=>∃(i:Nat)(q:List Pc),i≤at_.length∧q.length=n∧aaT l row la i (at_.drop i) q=aaT l row la 0 at_ pcs∧env=[(0,.iptr (shC l gr sc o b n)),(1,.str row),(6,.int .i64 (la:Int)),(36,abB at_ .shared),(37,.int .i64 (at_.length:Int)),(38,.int .i64 (i:Int))]∧H1=H.set b (pcR q)∧k=at_.length-i
theorem auA(l:List ItN)(gr:Bool)(sc:Int)(o:Loc)(b n:Nat)(row:List UInt8)(at_:List Nat)(pcs:List Pc)(_:l.length≤100000)(hnl:n=l.length)(hpn:pcs.length=n)(hat:∀k,k∈at_→k<l.length)(hal:at_.length≤row.length)(hrl:row.length≤100000)(H:Heap)(hb:H.objs b=some (pcR pcs)):ACall prog 100 [.iptr (shC l gr sc o b n),.str row,abB at_ .shared] H (λ_ H'=>H'=H.set b (pcR (aaT l row (abG l 0 at_ (adY row)) 0 at_ pcs))):=by
 have htz:=buR row;have htl:=bpA row;refine ACall.of_body func100 rfl ntmps100 results100 rfl ?_;iterate 3 refine AX ?_
 refine .cl rfl call151 (.cons (tm rfl) (.cons (zS rfl) .nil)) (trimRightA 48 aC _ _) ?_;iterate 13 refine AX ?_
 refine AWP.loopW (bkH l gr sc o b n row at_ H) (at_.length) ⟨0,adY row,Nat.zero_le _,by omega,rfl,rfl,rfl,rfl⟩ (zF rfl (zF rfl (zF rfl (zU rfl (by rw[htz]) sX)))) (hRa _) ?_;rintro _ _ _ ⟨i,m,hi,hm,hinv,rfl,rfl,rfl⟩;iterate 6 refine AX ?_
 refine AWP.cond (tm rfl) (λhc17=>?_) (λhc17=>?_)
 ·try simp only[aL]at hc17
  iterate 7 refine AX ?_
  refine .p rfl (qA U30 Z3 (tm rfl) (tm rfl) aA (asP (show i<at_.length by omega))) ?_;iterate 6 refine AX ?_
  have hkl:=afO hat (show i<at_.length by omega);have hdr:=amD (show i<at_.length by omega);generalize at_.getD i 0=kk at *;iterate 3 refine AX ?_
  refine .p rfl (zA U89 rfl Z52 (tm rfl)) (.p rfl (zA U52 rfl Z50 (tm rfl)) ?_);iterate 3 refine AX ?_
  refine .p rfl (zA U57 rfl Z9 (tm rfl)) ?_;iterate 4 refine AX ?_
  refine AWP.cond (tm rfl) (λhc30=>?_) (λhc30=>?_)
  ·try simp only[aL]at hc30
   iterate 14 refine AX ?_
   refine Round.mk (J:=bkH l gr sc o b n row at_ H) ⟨i+1,max m (i+1),by omega,by omega,by rw[←hinv,hdr,abG,aN ((qG hkl).symm.trans hc30)],rfl,rfl,rfl⟩ (zF rfl (zF rfl (zF rfl (zU rfl (by congr 1;unfold asX;split<;>omega) sX)))) (hRa _) aA
  try simp only[aL]at hc30
  iterate 8 refine AX ?_
  refine Round.mk (J:=bkH l gr sc o b n row at_ H) ⟨i+1,m,by omega,hm,by rw[←hinv,hdr,abG,aM (λz=>hc30 ((qG hkl).trans z))],rfl,rfl,rfl⟩ sX (hRa _) aA
 try simp only[aL]at hc17
 iterate 6 refine AX ?_
 have hil:i=at_.length:=by omega
 subst hil;rw[dL,abG]at hinv;generalize abG l 0 at_ (adY row)=la at hinv ⊢;subst hinv;iterate 7 refine AX ?_
 refine AWP.loopW (bkG l gr sc o b n row at_ pcs m H) (at_.length) ⟨0,pcs,Nat.zero_le _,hpn,rfl,rfl,(Heap.set_self hb).symm,rfl⟩ sX (hRa _) ?_;rintro _ _ _ ⟨i,q,hi,hql,hinv,rfl,rfl,rfl⟩;iterate 6 refine AX ?_
 refine AWP.cond (tm rfl) (λhc39=>?_) (λhc39=>?_)
 ·try simp only[aL]at hc39
  iterate 7 refine AX ?_
  refine .p rfl (qA U30 Z3 (tm rfl) (tm rfl) aA (asP (show i<at_.length by omega))) ?_;iterate 6 refine AX ?_
  have hkl:=afO hat (show i<at_.length by omega);have hdr:=amD (show i<at_.length by omega);generalize at_.getD i 0=kk at *;refine AWP.draw [(0,true),(1,true),(2,true),(3,true),(4,true),(5,true),(6,true),(7,true),(8,true),(9,true),(10,true),(11,true),(12,true),(13,true),(14,true),(15,true),(16,true),(17,false)] rfl aE ?_;iterate 2 refine AX ?_
  refine .p rfl rfl (zA U89 rfl Z87 (tm rfl)) ?_;iterate 4 refine AX ?_
  refine .p rfl rfl (zA U89 rfl Z52 (tm rfl)) (.p rfl rfl (zA U52 rfl Z50 (tm rfl)) ?_);iterate 3 refine AX ?_
  refine .p rfl rfl (zA U57 rfl Z9 (tm rfl)) (.p rfl rfl (zX G9 (tm rfl)) (.p rfl rfl (qD [(0,1),(1,1)] U183 V183 (zr183) rfl (pl183 _ U183) (.cons (tm rfl) (.inl rfl) .nil) rfl) (.p rfl rfl (aaW U183 rfl (tm rfl)) (.p rfl rfl (yH U87 Z147 (tm rfl) (tm rfl) aA aA) (.s0 rfl (yQ Pc.av (.hl l[kk].text []) kk Z147 (tm rfl) (tm rfl) rfl rfl (oS _ _ _) aA aA) ?_)))));rintro _ _ ⟨rfl,hH⟩;obtain rfl:=hH.symm;rw[sS];iterate 9 refine AX ?_
  refine AWP.cond (tm rfl) (λhc62=>?_) (λhc62=>?_)
  ·try simp only[aL]at hc62
   refine AWP.draw [(0,true),(1,true),(2,true),(3,true),(4,true),(5,true),(6,true),(7,true),(8,true),(9,true),(10,true),(11,true),(12,true),(13,false)] rfl aE ?_;iterate 2 refine AX ?_
   refine .p rfl rfl (zA U89 rfl Z87 (tm rfl)) ?_;iterate 5 refine AX ?_
   refine .p rfl rfl (yU (tm rfl) zJ aA) (.p rfl rfl (qZ U9 (tm rfl) (tm rfl) (tm rfl) aA aA aA) (.p rfl rfl (qD [(0,1)] U145 V145 (zr145) rfl (pl145 _ U145) (.cons (tm rfl) (.inl rfl) .nil) rfl) (.p rfl rfl (aaW U145 rfl (tm rfl)) (.p rfl rfl (yH U87 Z147 (tm rfl) (tm rfl) aA aA) (.s0 rfl (yQ Pc.av (.fx ((row.take ((i:Int)+1).toNat).drop (i:Int).toNat)) kk Z147 (tm rfl) (tm rfl) rfl rfl (oS _ _ _) aA (by rw[bR];omega)) ?_)))));rintro _ _ ⟨rfl,hH⟩;obtain rfl:=hH.symm;rw[sS,List.set_set,show((i:Int)+1).toNat=i+1 by omega,show(i:Int).toNat=i from rfl,ahP (show i<row.length by omega)];iterate 8 refine AX ?_
   refine Round.mk (J:=bkG l gr sc o b n row at_ pcs m H) ⟨i+1,_,by omega,by rw[bR];exact hql,by rw[←hinv,hdr,aaT,aK],rfl,rfl,rfl⟩ sX (hRa _) aA
  try simp only[aL]at hc62
  iterate 8 refine AX ?_
  refine Round.mk (J:=bkG l gr sc o b n row at_ pcs m H) ⟨i+1,_,by omega,by rw[bR];exact hql,by rw[←hinv,hdr,aaT,aJ,qG hkl],rfl,rfl,rfl⟩ sX (hRa _) aA
 try simp only[aL]at hc39
 iterate 4 refine AX ?_
 refine Ret.go' .nil _ (hRa _) ?_;have hil:i=at_.length:=by omega
 subst hil;rw[dL,aaT]at hinv;rw[hinv]
theorem bsZ(l:List ItN)(gr:Bool)(sc:Int)(o:Loc)(b n:Nat)(ho:o.ok)(hs2:o.second=2∨o.second=3)(s:List UInt8)(hs:s.length≤110000)(last:Nat)(hlast:last≤800000){z:Int}{s':List UInt8}(hz:z=(last:Int))(he:s'=s):Fn 178 [.iptr (shC l gr sc o b n),.str s',.int .i64 z] (.str (aqV (qV o gr) s last)):=by
 intro H;subst hz;subst he;exact bfK l gr sc o b n ho hs2 s' hs last hlast H
theorem byC{row:List UInt8}{pl:Nat}{x:Int}(h1:x.toNat=row.length-pl)(h0:(i:Int)=0):(row.take x.toNat).drop (Int.toNat 0)=abO row (decide (i=0)) pl:=by
 unfold abO;rw[h1,aQ aA,aN rfl];rfl
theorem byD{row:List UInt8}{pl:Nat}{x y:Int}(h1:x.toNat=row.length-pl)(h2:y.toNat=row.length-1-pl)(h0:¬(i:Int)=0):(row.take x.toNat).drop y.toNat=abO row (decide (i=0)) pl:=by
 unfold abO;rw[h1,h2,aP aA,aM aF]
theorem bbB(row:List UInt8)(fst:Bool)(pl:Nat):(abO row fst pl).length≤row.length:=by
 unfold abO;rw[bC,aU];omega
def bpN(l:List ItN)(gr:Bool)(sc:Int)(o:Loc)(b n:Nat)(row:List UInt8)(at_:List Nat)(pcs:List Pc)(H:Heap):Nat→Env→Heap→Prop:=λk env H1=>∃(i:Nat)(z:Bool)(q:List Pc),i≤at_.length∧q.length=n∧abW l (qV o gr) row (decide (i=0)) z (at_.drop i) q=abW l (qV o gr) row true false at_ pcs∧env=[(0,.iptr (shC l gr sc o b n)),(1,.str row),(2,abB at_ .shared),(6,.str (if z=true then [48]else [])),(13,abB at_ .shared),(14,.int .i64 (at_.length:Int)),(15,.int .i64 (i:Int))]∧H1=H.set b (pcR q)∧k=at_.length-i
theorem ahG(l:List ItN)(gr:Bool)(sc:Int)(o:Loc)(b n:Nat)(row:List UInt8)(at_:List Nat)(pcs:List Pc)(ho:o.ok)(hs2:o.second=2∨o.second=3)(_:l.length≤100000)(hnl:n=l.length)(hpn:pcs.length=n)(hat:∀k,k∈at_→k<l.length)(hal:at_.length≤100000)(hrl:row.length≤110000)(H:Heap)(hb:H.objs b=some (pcR pcs)):ACall prog 101 [.iptr (shC l gr sc o b n),.str row,abB at_ .shared] H (λ_ H'=>H'=H.set b (pcR (abW l (qV o gr) row true false at_ pcs))):=by
 refine ACall.of_body func101 rfl ntmps101 results101 rfl ?_;iterate 13 refine AX ?_
 refine AWP.loopW (bpN l gr sc o b n row at_ pcs H) (at_.length) ⟨0,false,pcs,Nat.zero_le _,hpn,rfl,rfl,(Heap.set_self hb).symm,rfl⟩ sX (hRa _) ?_;rintro _ _ _ ⟨i,z,q,hi,hql,hinv,rfl,rfl,rfl⟩;iterate 6 refine AX ?_
 refine AWP.cond (tm rfl) (λhc16=>?_) (λhc16=>?_)
 ·try simp only[aL]at hc16
  iterate 7 refine AX ?_
  refine .p rfl (qA U30 Z3 (tm rfl) (tm rfl) aA (asP (show i<at_.length by omega))) ?_;iterate 6 refine AX ?_
  have hkl:=afO hat (show i<at_.length by omega);have hdr:=amD (show i<at_.length by omega);generalize at_.getD i 0=kk at *;rw[hdr,abW,bC]at hinv;generalize hz2:(z||decide (aaV l kk=[48]))=z2 at hinv;generalize hpl:at_.length-(i+1)=pl at hinv;iterate 13 refine AX ?_
  refine .p rfl (zA U89 rfl Z52 (tm rfl)) (.p rfl (zA U52 rfl Z50 (tm rfl)) ?_);iterate 3 refine AX ?_
  refine .p rfl (zA U57 rfl Z9 (tm rfl)) ?_;iterate 4 refine AX ?_
  refine AWP.meet (λenv H2=>env=[(0,.iptr (shC l gr sc o b n)),(1,.str row),(2,abB at_ .shared),(6,.str (if z2=true then [48]else [])),(7,.int .i64 (i:Int)),(8,.int .i64 (kk:Int)),(9,.int .i64 ((at_.length:Int)-1-(i:Int))),(10,.str (aaV l kk)),(13,abB at_ .shared),(14,.int .i64 (at_.length:Int)),(15,.int .i64 (i:Int))]∧H2=H.set b (pcR q)) ?_ ?_
  ·iterate 6 refine AX ?_
   refine AWP.cond (tm rfl) (λhc35=>?_) (λhc35=>?_)
   ·try simp only[aL]at hc35
    iterate 5 refine AX ?_
    refine Meets.mk (M:=λenv H2=>env=[(0,.iptr (shC l gr sc o b n)),(1,.str row),(2,abB at_ .shared),(6,.str (if z2=true then [48]else [])),(7,.int .i64 (i:Int)),(8,.int .i64 (kk:Int)),(9,.int .i64 ((at_.length:Int)-1-(i:Int))),(10,.str (aaV l kk)),(13,abB at_ .shared),(14,.int .i64 (at_.length:Int)),(15,.int .i64 (i:Int))]∧H2=H.set b (pcR q)) ⟨rfl,rfl⟩ (zF rfl (zF rfl (zF rfl (zU rfl (by rw[show z2=true by rw[←hz2,aQ ((qG hkl).symm.trans hc35),Bool.or_true],aN rfl];exact congrArg AV.str hc35) (zF rfl (zF rfl (zF rfl (zU rfl (congrArg AV.str (qG hkl)) sX)))))))) (hRa _)
   try simp only[aL]at hc35
   iterate 2 refine AX ?_
   refine Meets.mk (M:=λenv H2=>env=[(0,.iptr (shC l gr sc o b n)),(1,.str row),(2,abB at_ .shared),(6,.str (if z2=true then [48]else [])),(7,.int .i64 (i:Int)),(8,.int .i64 (kk:Int)),(9,.int .i64 ((at_.length:Int)-1-(i:Int))),(10,.str (aaV l kk)),(13,abB at_ .shared),(14,.int .i64 (at_.length:Int)),(15,.int .i64 (i:Int))]∧H2=H.set b (pcR q)) ⟨rfl,rfl⟩ (zF rfl (zF rfl (zF rfl (zU rfl (by rw[←hz2,aP (λw=>hc35 ((qG hkl).trans w)),Bool.or_false]) (zF rfl (zF rfl (zF rfl (zU rfl (congrArg AV.str (qG hkl)) sX)))))))) (hRa _)
  rintro _ _ ⟨rfl,rfl⟩;refine AWP.meet (λenv H2=>env=[(0,.iptr (shC l gr sc o b n)),(1,.str row),(2,abB at_ .shared),(6,.str (if z2=true then [48]else [])),(7,.int .i64 (i:Int)),(8,.int .i64 (kk:Int)),(9,.int .i64 ((at_.length:Int)-1-(i:Int))),(10,.str (if z2=true then [48]else aaV l kk)),(13,abB at_ .shared),(14,.int .i64 (at_.length:Int)),(15,.int .i64 (i:Int))]∧H2=H.set b (pcR q)) ?_ ?_
  ·iterate 6 refine AX ?_
   refine AWP.cond (tm rfl) (λhc38=>?_) (λhc38=>?_)
   ·try simp only[aL]at hc38
    iterate 5 refine AX ?_
    refine Meets.mk (M:=λenv H2=>env=[(0,.iptr (shC l gr sc o b n)),(1,.str row),(2,abB at_ .shared),(6,.str (if z2=true then [48]else [])),(7,.int .i64 (i:Int)),(8,.int .i64 (kk:Int)),(9,.int .i64 ((at_.length:Int)-1-(i:Int))),(10,.str (if z2=true then [48]else aaV l kk)),(13,abB at_ .shared),(14,.int .i64 (at_.length:Int)),(15,.int .i64 (i:Int))]∧H2=H.set b (pcR q)) ⟨rfl,rfl⟩ (zF rfl (zF rfl (zF rfl (zF rfl (zF rfl (zF rfl (zF rfl (zU rfl (by cases z2 with|true=>rfl|false=>exact absurd rfl hc38) sX)))))))) (hRa _)
   try simp only[aL]at hc38
   iterate 2 refine AX ?_
   refine Meets.mk (M:=λenv H2=>env=[(0,.iptr (shC l gr sc o b n)),(1,.str row),(2,abB at_ .shared),(6,.str (if z2=true then [48]else [])),(7,.int .i64 (i:Int)),(8,.int .i64 (kk:Int)),(9,.int .i64 ((at_.length:Int)-1-(i:Int))),(10,.str (if z2=true then [48]else aaV l kk)),(13,abB at_ .shared),(14,.int .i64 (at_.length:Int)),(15,.int .i64 (i:Int))]∧H2=H.set b (pcR q)) ⟨rfl,rfl⟩ (zF rfl (zF rfl (zF rfl (zF rfl (zF rfl (zF rfl (zF rfl (zU rfl (by cases z2 with|true=>exact absurd hc38 aF|false=>rfl) sX)))))))) (hRa _)
  rintro _ _ ⟨rfl,rfl⟩;iterate 9 refine AX ?_
  refine AWP.cond (tm rfl) (λhc43=>?_) (λhc43=>?_)
  ·try simp only[aL]at hc43
   refine AX ?_;refine AWP.draw [(0,true),(1,true),(2,true),(3,true),(4,true),(5,true),(6,true),(7,true),(8,true),(9,true),(10,true),(11,true),(12,false)] rfl aE ?_;iterate 2 refine AX ?_
   refine .p rfl rfl (zA U89 rfl Z87 (tm rfl)) ?_;iterate 3 refine AX ?_
   refine .p rfl rfl (zB (tm rfl)) (.p rfl rfl (zB (tm rfl)) ?_);refine APlan.f rfl rfl (λ_=>zD call177 (evs2 rfl rfl) (bkN _ _ _ _ _ _ hs2 pl aA aA _)) ?_;refine .p rfl rfl (qD [(0,1),(1,1)] U183 V183 (zr183) rfl (pl183 _ U183) (.cons (tm rfl) (.inl rfl) (.cons (tm rfl) (.inl rfl) .nil)) rfl) (.p rfl rfl (aaW U183 rfl (tm rfl)) (.p rfl rfl (yH U87 Z147 (tm rfl) (tm rfl) aA aA) (.s0 rfl (yQ Pc.av (.hl (if z2=true then [48]else aaV l kk) (qV o gr pl)) kk Z147 (tm rfl) (tm rfl) rfl rfl (oS _ _ _) aA aA) ?_)));rintro _ _ ⟨rfl,hH⟩;obtain rfl:=hH.symm;rw[sS];iterate 11 refine AX ?_
   refine Round.mk (J:=bpN l gr sc o b n row at_ pcs H) ⟨i+1,z2,_,by omega,by rw[bR];exact hql,by rw[show decide (i+1=0)=false by simp,←hinv,aN (show row.length≤pl by omega)],rfl,rfl,rfl⟩ sX (hRa _) aA
  try simp only[aL]at hc43
  iterate 25 refine AX ?_
  refine AWP.cond (tm rfl) (λhc63=>?_) (λhc63=>?_)
  ·try simp only[aL]at hc63
   iterate 4 refine AX ?_
   refine AWP.draw [(0,true),(1,true),(2,true),(3,true),(4,true),(5,true),(6,true),(7,true),(8,true),(9,true),(10,true),(11,true),(12,false),(13,true),(14,true),(15,true),(16,false)] rfl aE ?_;iterate 2 refine AX ?_
   refine .p rfl rfl (zA U89 rfl Z87 (tm rfl)) ?_;iterate 7 refine AX ?_
   refine .p rfl rfl (qZ U9 (tm rfl) (tm rfl) (tm rfl) aA aA aA) (.p rfl rfl (zB (tm rfl)) ?_);refine .s rfl rfl (zD call178 (evs3 rfl rfl rfl) (bsZ _ _ _ _ _ _ ho hs2 (abO row (decide (i=0)) pl) (by have:=bbB row (decide (i=0)) pl;omega) pl aA aA (byC aA hc63) _)) ?_;rintro _ _ ⟨rfl,hH⟩;obtain rfl:=hH.symm;refine .p rfl rfl (qD [(0,1)] U145 V145 (zr145) rfl (pl145 _ U145) (.cons (tm rfl) (.inl rfl) .nil) rfl) (.p rfl rfl (aaW U145 rfl (tm rfl)) (.p rfl rfl (yH U87 Z147 (tm rfl) (tm rfl) aA aA) (.s0 rfl (yQ Pc.av (.fx (aqV (qV o gr) (abO row (decide (i=0)) pl) pl)) kk Z147 (tm rfl) (tm rfl) rfl rfl (oS _ _ _) aA aA) ?_)));rintro _ _ ⟨rfl,hH⟩;obtain rfl:=hH.symm;rw[sS];iterate 8 refine AX ?_
   refine Round.mk (J:=bpN l gr sc o b n row at_ pcs H) ⟨i+1,z2,_,by omega,by rw[bR];exact hql,by rw[show decide (i+1=0)=false by simp,←hinv,aM (show¬row.length≤pl by omega)],rfl,rfl,rfl⟩ sX (hRa _) aA
  try simp only[aL]at hc63
  iterate 2 refine AX ?_
  refine AWP.draw [(0,true),(1,true),(2,true),(3,true),(4,true),(5,true),(6,true),(7,true),(8,true),(9,true),(10,true),(11,true),(12,false),(13,true),(14,true),(15,true),(16,false)] rfl aE ?_;iterate 2 refine AX ?_
  refine .p rfl rfl (zA U89 rfl Z87 (tm rfl)) ?_;iterate 7 refine AX ?_
  refine .p rfl rfl (qZ U9 (tm rfl) (tm rfl) (tm rfl) aA aA aA) (.p rfl rfl (zB (tm rfl)) ?_);refine .s rfl rfl (zD call178 (evs3 rfl rfl rfl) (bsZ _ _ _ _ _ _ ho hs2 (abO row (decide (i=0)) pl) (by have:=bbB row (decide (i=0)) pl;omega) pl aA aA (byD aA aA hc63) _)) ?_;rintro _ _ ⟨rfl,hH⟩;obtain rfl:=hH.symm;refine .p rfl rfl (qD [(0,1)] U145 V145 (zr145) rfl (pl145 _ U145) (.cons (tm rfl) (.inl rfl) .nil) rfl) (.p rfl rfl (aaW U145 rfl (tm rfl)) (.p rfl rfl (yH U87 Z147 (tm rfl) (tm rfl) aA aA) (.s0 rfl (yQ Pc.av (.fx (aqV (qV o gr) (abO row (decide (i=0)) pl) pl)) kk Z147 (tm rfl) (tm rfl) rfl rfl (oS _ _ _) aA aA) ?_)));rintro _ _ ⟨rfl,hH⟩;obtain rfl:=hH.symm;rw[sS];iterate 8 refine AX ?_
  refine Round.mk (J:=bpN l gr sc o b n row at_ pcs H) ⟨i+1,z2,_,by omega,by rw[bR];exact hql,by rw[show decide (i+1=0)=false by simp,←hinv,aM (show¬row.length≤pl by omega)],rfl,rfl,rfl⟩ sX (hRa _) aA
 try simp only[aL]at hc16
 iterate 4 refine AX ?_
 refine Ret.go' .nil _ (hRa _) ?_;have hil:i=at_.length:=by omega
 subst hil;rw[dL,abW]at hinv;rw[hinv]
end
end Go.Proofs.YteedncdcbgplfaaGreatDoor
