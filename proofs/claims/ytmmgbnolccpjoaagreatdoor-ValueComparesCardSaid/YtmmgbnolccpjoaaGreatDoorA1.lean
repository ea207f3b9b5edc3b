import Derived.Test.YtmmgbnolccpjoaaGreatDoorV4
namespace Go.Proofs.YtmmgbnolccpjoaaGreatDoor
open Go.Proofs.Tryz
open Go Go.RowKit
variable{a b x y:Nat}{l:Loc}{v:Val}
theorem cdS(h:zK x≤2): -1074≤yG x∧(-1074<yG x→4503599627370496≤yF x):=by
 unfold yG yF;by_cases h1:zK x≤1
 ·omega
 have h2:zK x=2:=by omega
 rw[aL h1,aN h2,aL h1,aN h2];unfold zK at h2
 grind
theorem bcQ(h:zK x≤2):yF x=0↔zK x=0:=by
 unfold yF;by_cases h1:zK x≤1
 ·rw[aN h1];unfold zK at h1 ⊢
  grind
 grind
theorem blT{na nb:Bool}{ma mb:Nat}{ea eb:Int}(h:eb≤ea)(hm: -1074<ea→4503599627370496≤ma)(hb:mb<9007199254740992)(he: -1074≤eb)(he2:ea≤972):
  btN na ma ea nb mb eb=bpM na nb (ma*2^(ea+1074).toNat) (mb*2^(eb+1074).toNat) (-1074):=by
 rw[chT h (λq=>hm aA) hb aA aA];have q:=bpL (na:=na) (nb:=nb) (x:=ma*2^(ea-eb).toNat) (y:=mb) (j:=(eb+1074).toNat) (e:= -1074) aA aA;rw[show(-1074:Int)+((eb+1074).toNat:Nat)=eb by omega,bH,←bI,show(ea-eb).toNat+(eb+1074).toNat=(ea+1074).toNat by omega]at q;exact q.symm
def exN(x:Nat):Nat:=yF x*2^(yG x+1074).toNat
theorem cdO(ha:zK a≤2)(hb:zK b≤2):arK a b=bpM (aeK a) (aeK b) (exN a) (exN b) (-1074):=by
 have fa:=cdS ha;have fb:=cdS hb;have ra:=yM a;have rb:=yM b;unfold arK exN;by_cases h:yG a<yG b
 ·rw[aN h,blT aA fb.2 (qD a) fa.1 rb.2,buK]
 rw[aL h,blT aA fa.2 (qD b) fb.1 ra.2]
def amL(na:Bool)(x:Nat)(nb:Bool)(y:Nat):Bool×Nat:=if na=nb then(na,x+y)else if y≤x then(na,x-y)else(nb,y-x)
theorem ciN{na nb:Bool}{e:Int}(h:0<x+y):(if(amL na x nb y).2=0 then 0 else zV (amL na x nb y).1 (amL na x nb y).2 e false)=bpM na nb x y e:=by
 unfold amL bpM
 grind
def afB(a b:Nat):Nat:=
 if zK a=4∨zK b=4 then bcN else if zK a=3∧zK b=3∧a≠b then bcN else if zK a=3 then a else if zK b=3 then b
 else if zK a=0∧zK b=0 then qG (aeK a&&aeK b)
 else if(amL (aeK a) (exN a) (aeK b) (exN b)).2=0 then 0 else zV (amL (aeK a) (exN a) (aeK b) (exN b)).1 (amL (aeK a) (exN a) (aeK b) (exN b)).2 (-1074) false
theorem boC(h:zK x≤2):exN x=0↔zK x=0:=by
 rw[←bcQ h];unfold exN;have hp:0<2^(yG x+1074).toNat:=by grind
 constructor
 ·intro q;rcases Nat.mul_eq_zero.1 q with q|q
  ·exact q
  omega
 grind
theorem bcP(hx:x<18446744073709551616)(h:zK x=0):x=0∨x=9223372036854775808:=by
 unfold zK at h
 grind
theorem bkD(ha:a<18446744073709551616)(hb:b<18446744073709551616):ajI a b=afB a b:=by
 have ka:=aaF a;have kb:=aaF b;have main:zK a≤2→zK b≤2→¬(zK a=0∧zK b=0)→arK a b=afB a b:=λh1 h2 h3=>by
  rw[cdO h1 h2];unfold afB;rw[aI,aI,aI,aI,aL h3,ciN];have q1:=boC h1;have q2:=boC h2;omega
 have same:(zK a=0∧zK b=0)∨(zK a=3∧zK b=3)→True→(if a=b then a else if zK a=3 then bcN else 0)=afB a b:=λq _=>by
  rcases q with⟨h,k⟩|⟨h,k⟩
  ·have e:afB a b=qG (aeK a&&aeK b):=by
    unfold afB
    grind
   rw[e,h];rcases bcP ha h with rfl|rfl<;>rcases bcP hb k with rfl|rfl<;>decide
  have e:afB a b=if a≠b then bcN else a:=by
   unfold afB
   grind
  grind
 rcases(by omega:zK a=0∨zK a=1∨zK a=2∨zK a=3∨zK a=4)with h|h|h|h|h<;>rcases(by omega:zK b=0∨zK b=1∨zK b=2∨zK b=3∨zK b=4)with k|k|k|k|k
 all_goals
  have eK:clL a b=clD (ajR (zK a)) (ajR (zK b)):=rfl;rw[h,k]at eK;unfold ajI;rw[eK];first
   |(rw[aL aC,aL aC,aL aC,aL aC];exact main aA aA aA)
   |(rw[aN aC];unfold afB;rw[h,k];rfl)
   |(rw[aL aC,aN aC];unfold afB;rw[h,k];rfl)
   |(rw[aL aC,aL aC,aN aC];unfold afB;rw[h,k];rfl)
   |(rw[aL aC,aL aC,aL aC,aN aC];exact same aA trivial)
def atP(a b:Nat):Nat:=
 if aaT a b then bcN
 else if zK a=3∨zK b=0 then qG (aeH a b)+amY
 else if zK a=0∨zK b=3 then qG (aeH a b)
 else zV (aeH a b) (yF a*2^128/yF b) (yG a-yG b-128) (decide (yF a*2^128%yF b≠0))
theorem aoD(h:0<yF x):4503599627370496≤aaM x∧aaM x<9007199254740992∧53-zY (yF x)≤52:=by
 have h1:zY (yF x)≤53:=yQ.2 (bM (qD x) aC);have h0:0<zY (yF x):=qQ.2 (by rw[dI];exact h);have h2:yF x<2^zY (yF x):=yQ.1 (aV _);have h3:2^(zY (yF x)-1)≤yF x:=qQ.1 aA;unfold aaM;have hp:0<2^(53-zY (yF x)):=by grind
 refine⟨?_,?_,by omega⟩
 ·have:=bC (2^(53-zY (yF x))) h3;rw[←bI,show zY (yF x)-1+(53-zY (yF x))=52 by omega]at this;omega
 have:=eD h2 hp;rw[←bI,show zY (yF x)+(53-zY (yF x))=53 by omega]at this;omega
theorem biI{neg:Bool}{n:Nat}{e:Int}{more:Bool}:zV neg n e more=qG neg+zV false n e more:=by
 have h0:qG false=0:=rfl;unfold zV;split
 ·omega
 split
 ·omega
 unfold beU;rw[h0,bZ]
theorem axQ{neg:Bool}{n:Nat}{e:Int}{more:Bool}(hn:0<n)(he:1026≤e):zV neg n e more=qG neg+amY:=by
 rw[biI,amF aA aA hn]
theorem bbO:apR a b=atP a b:=by
 have ka:=aaF a;have kb:=aaF b;unfold apR atP;by_cases h1:aaT a b
 ·rw[aN h1,aN h1]
 rw[aL h1,aL h1];by_cases h2:zK a=3∨zK b=0
 ·rw[aN h2,aN h2]
 rw[aL h2,aL h2];by_cases h3:zK a=0∨zK b=3
 ·rw[aN h3,aN h3]
 rw[aL h3,aL h3];have n1:¬zK a=4:=λq=>h1 (.inl q);have n2:¬zK b=4:=λq=>h1 (.inr (.inl q));have pa:0<yF a:=by
  have:=bcQ (x:=a) aA;omega
 have pb:0<yF b:=by
  have:=bcQ (x:=b) aA;omega
 obtain⟨la,_,ia⟩:=aoD pa;obtain⟨_,lb,ib⟩:=aoD pb;have ra:=yM a;have rb:=yM b;by_cases hE:1900<yG a-yG b
 ·have eA:afL a=yG a-((53-zY (yF a):Nat):Int):=rfl;have eB:afL b=yG b-((53-zY (yF b):Nat):Int):=rfl;have q1:0<aaM a*2^64/aaM b:=by
   have h0:0<aaM b:=bM aC (aoD pb).1;refine(Nat.div_pos_iff).2 ⟨h0,?_⟩;have:=bC (2^64) la;omega
  have q2:0<yF a*2^128/yF b:=by
   refine(Nat.div_pos_iff).2 ⟨pb,?_⟩;have:=bC (2^128) (show 1≤yF a from pa);have:=qD b;omega
  rw[axQ q1 aA,axQ q2 aA]
 have q:=cmE (neg:=aeH a b) (E:=yG a-yG b) la pb lb ia ib aA aA;unfold afL;unfold aaM at *;rw[←q];congr 1;omega
def sqK(a:Nat):Nat:=if yG a%2≠0 then 129 else 128
def sqN(a:Nat):Nat:=yF a*2^sqK a
def aqN(a:Nat):Nat:=
 if zK a=4∨9223372036854775808<a then bcN
 else if zK a=0∨zK a=3 then a
 else zV false (aaI (sqN a) 100 0) ((yG a-sqK a)/2) (decide (aaI (sqN a) 100 0*aaI (sqN a) 100 0<sqN a))
theorem bnZ:aoG a=aqN a:=by
 have ka:=aaF a;unfold aoG aqN;by_cases h1:zK a=4∨9223372036854775808<a
 ·grind
 rw[aL h1,aL h1];by_cases h2:zK a=0∨zK a=3
 ·grind
 rw[aL h2,aL h2];have pa:0<yF a:=by
  have:=bcQ (x:=a) aA;omega
 obtain⟨l1,l2,ia⟩:=aoD pa;have ra:=yM a;have hk1:afO a≤74∧73≤afO a∧(afL a-afO a)%2=0:=by unfold afO;split<;>omega
 have hk2:sqK a≤129∧128≤sqK a∧(yG a-sqK a)%2=0:=by unfold sqK;split<;>omega
 have eL:afL a=yG a-((53-zY (yF a):Nat):Int):=rfl;have eM:aaM a=yF a*2^(53-zY (yF a)):=rfl;generalize hi:53-zY (yF a)=i at *;obtain⟨t,ht⟩:∃t:Nat,sqK a=i+afO a+2*t:=⟨(sqK a-i-afO a)/2,by omega⟩;have hN:sqN a=adA a*4^t:=by
  unfold sqN adA;rw[eM,show(4:Nat)=2^2 from rfl,←eE,bH,bH,←bI,←bI,ht]
  grind
 have hM1:adA a<2^128:=by
  unfold adA;have h1:aaM a*2^afO a≤9007199254740992*2^74:=cS (cT l2) (aW aC hk1.1);omega
 have hM2:2^108*2^17≤adA a:=by
  unfold adA;have h1:4503599627370496*2^73≤aaM a*2^afO a:=cS l1 (aW aC hk1.2.1);omega
 have r1:arG (adA a) (aaI (adA a) 64 0):=bmF hM1;have r2:arG (adA a*4^t) (aaI (sqN a) 100 0):=by
  rw[←hN];refine anG 100 0 (Nat.zero_le _) ?_;unfold sqN;have h1:yF a*2^sqK a≤9007199254740992*2^129:=cS (cT (qD a)) (aW aC hk2.1);omega
 have hb:55≤zY (aaI (adA a) 64 0):=by
  refine qQ.2 ?_;refine Nat.le_of_not_lt λq=>?_;have q1:aaI (adA a) 64 0+1≤2^54:=q;have q2:=cS q1 q1;have q3:=r1.2;omega
 have q:=bpU (E:=(afL a-afO a)/2) r1 r2 hb aA aA;have e1:decide (aaI (adA a) 64 0*aaI (adA a) 64 0≠adA a)=decide (aaI (adA a) 64 0*aaI (adA a) 64 0<adA a):=aT.2 ⟨λq=>Nat.lt_of_le_of_ne r1.1 q,λq=>Nat.ne_of_lt q⟩
 grind
theorem ccD{u L:Nat}(h:u<2^L):∀k,apK a u (L+k) k=cgI
 |0=>rfl
 |k+1=>by
  have e:∀j,j≤k→apK a u (L+(k+1)) j=cgI:=λj=>by
   induction j with
   |zero=>exact λ_=>rfl
   |succ j ih=>
    intro hj;unfold apK;rw[ih aA,bW (bM h (aW aC aA)),aL aC];decide+kernel
  unfold apK;rw[e k (aV _),bW (bM h (aW aC aA)),aL aC];decide+kernel
theorem bmT{a u L:Nat}(h:u<2^L)(k:Nat):∀i,i≤L→apK a u (L+k) (k+i)=apK a u L i
 |0,_=>ccD h k
 |i+1,hi=>by
  rw[←eG];unfold apK;rw[bmT h k i aA,show L+k-1-(k+i)=L-1-i by omega]
theorem cmG{u:Nat}(h:u<18446744073709551616):apK a u 64 64=apK a u (zY u) (zY u):=by
 have h1:u<2^zY u:=yQ.1 (aV _);have h2:zY u≤64:=yQ.2 (dE h aC);have:=bmT (a:=a) h1 (64-zY u) (zY u) (aV _)
 grind
def baG(x:Nat):Int:=if 9223372036854775808≤x then-((x:Int)-9223372036854775808)else(x:Int)
def afJ(a b:Nat):Int:=if zK a=4∨zK b=4 then 0 else if baG a<baG b then-1 else if baG b<baG a then 1 else 0
theorem bvZ(hx:x<18446744073709551616)(h:zK x≠4):anW x=baG x:=by
 unfold anW baG
 grind
theorem apS(ha:a<18446744073709551616)(hb:b<18446744073709551616):bbP a b=afJ a b:=by
 unfold bbP afJ;by_cases h:zK a=4∨zK b=4
 ·omega
 rw[aL h,aL h,bvZ ha (λq=>h (.inl q)),bvZ hb (λq=>h (.inr q))]
def aeY(x:Nat):Nat:=if 0≤yG x then yF x*2^(yG x).toNat else yF x/2^(-yG x).toNat
def awH(x:Nat):Int×Int:=
 if 3≤zK x then(0,11)
 else if¬aeY x<18446744073709551616∨9223372036854775808<aeY x∨(aeY x=9223372036854775808∧aeK x=false)then(0,6)
 else if aeK x=true then(-((aeY x:Nat):Int),0)else((aeY x:Nat),0)
theorem coB(x:Nat):toN x=awH x:=by
 unfold toN awH;by_cases h:3≤zK x
 ·grind
 rw[aL h,aL h];have hf:=cdS (x:=x) aA;have hw:(if yG x<0 then yF x/2^(-yG x).toNat else yF x*2^(yG x).toNat)=aeY x:=by
  unfold aeY
  grind
 simp only[hw];by_cases h2:0≤yG x∧11<yG x
 ·rw[aN h2,aN]
  left
  have h3:=hf.2 aA;unfold aeY;rw[aN h2.1];have h4:2^12≤2^(yG x).toNat:=aW aC aA;have h5:=cS h3 h4;omega
 grind
def yO(l:Loc)(v:Val):Nat×Int:=
 if v.kind=1 then(v.bits,0)else if v.kind=2∧v.is=true then(cgI,0)
 else if v.kind=3 then(if(acB l (aaQ zQ v.text)).2≠0 then(0,3)else((acB l (aaQ zQ v.text)).1.bits,0))else if v.kind=4 then(0,v.fail)else(0,0)
def abA(l:Loc)(v:Val):List UInt8×Int:=
 if v.kind=1 then(bsB l (asV v.bits 15),0)else if v.kind=2 then(azF v.is,0)else if v.kind=3 then(v.text,0)else if v.kind=4 then([],v.fail)else([],0)
theorem afN(h:acN v=true):aaZ l v=yO l v:=by
 rcases agN h with h|⟨_,h⟩|h|⟨_,h⟩|⟨_,h⟩
 ·rw[h];rfl
 ·rw[h];rfl
 ·rw[h];cases v.is<;>rfl
 ·rw[h];rfl
 rw[h];rfl
theorem aiC(h:acN v=true):adN l v=abA l v:=by
 rcases agN h with h|⟨_,h⟩|h|⟨_,h⟩|⟨_,h⟩<;>rw[h]<;>rfl
theorem cjD(ha:a<18446744073709551616)(hb:b<18446744073709551616):aeH a b=decide (aeK a≠aeK b):=by
 unfold aeH aeK
 grind
def baA(a b:Nat):Nat:=
 if zK a=4∨zK b=4∨(zK a=3∧zK b=0)∨(zK a=0∧zK b=3)then bcN
 else if zK a=3∨zK b=3 then qG (aeH a b)+amY
 else zV (aeH a b) (yF a*yF b) (yG a+yG b) false
theorem bkB(a b:Nat):afD a b=baA a b:=by
 have ka:=aaF a;have kb:=aaF b;have e5:(if aeH a b=true then 18442240474082181120 else 9218868437227405312)=qG (aeH a b)+amY:=by cases aeH a b<;>rfl
 unfold afD baA;rw[e5];rcases(by omega:zK a=0∨zK a=1∨zK a=2∨zK a=3∨zK a=4)with h|h|h|h|h<;>rcases(by omega:zK b=0∨zK b=1∨zK b=2∨zK b=3∨zK b=4)with k|k|k|k|k<;>rw[h,k]<;>rfl
theorem atI(h:acN v=true):v=aiT 0∨(∃x,zK x<3∧v=⟨1,x,false,[],0⟩)∨(∃b,v=adH b)∨(∃s,v=⟨3,0,false,s,0⟩)∨(∃n,v=yT n):=by
 rcases agN h with h|⟨hk,h⟩|h|⟨_,h⟩|⟨_,h⟩
 ·exact .inl h
 ·grind
 ·grind
 ·grind
 grind
def aoB(a b:Val):Val:=if a.kind=0∧b.kind≠4 then aiT b.kind else a
def bdZ(v:Val):Int:=if v.kind=3 then 1 else if v.kind=2 then 2 else 0
def bdF(less more:Bool):Int:=if less=true then-1 else if more=true then 1 else 0
def afP(x y:Val):Int:=
 if x.kind=1 then afJ x.bits y.bits else if x.kind=2 then bdF (!x.is&&y.is) (x.is&& !y.is)
 else bdF (decide (Lib.compareBytes (bcO x.text) (bcO y.text)<0)) (decide (0<Lib.compareBytes (bcO x.text) (bcO y.text)))
def qI(a b:Val):Int:=
 if a.kind=4∨b.kind=4 then 0
 else if bdZ (aoB a b)≠bdZ (aoB b a)then bdF (decide (bdZ (aoB a b)<bdZ (aoB b a))) true
 else afP (aoB a b) (aoB b a)
theorem bbU:∀a b,Lib.compareBytes a b= -1∨Lib.compareBytes a b=0∨Lib.compareBytes a b=1
 | [],[]=>by simp[Lib.compareBytes]
 | [],_::_=>by simp[Lib.compareBytes]
 |_::_,[]=>by simp[Lib.compareBytes]
 |a::xs,b::ys=>by
  unfold Lib.compareBytes;split
  ·exact .inl rfl
  split
  ·exact .inr (.inr rfl)
  exact bbU xs ys
theorem ckX(s t:List UInt8):Lib.compareBytes s t=bdF (decide (Lib.compareBytes s t<0)) (decide (0<Lib.compareBytes s t)):=by
 rcases bbU s t with h|h|h<;>rw[h]<;>rfl
theorem ayY{a b:Val}(ha:a.bits<18446744073709551616)(hb:b.bits<18446744073709551616)(ra:acN a=true)(rb:acN b=true):aaG a b=qI a b:=by
 rcases atI ra with rfl|⟨x,hx,rfl⟩|⟨x,rfl⟩|⟨x,rfl⟩|⟨x,rfl⟩<;>rcases atI rb with rfl|⟨y,hy,rfl⟩|⟨y,rfl⟩|⟨y,rfl⟩|⟨y,rfl⟩
 all_goals first
  |rfl
  |exact apS ha hb
  |exact apS aC hb
  |exact apS ha aC
  |exact ckX _ _
  |(cases x<;>cases y<;>rfl)
  |(cases x<;>rfl)
  |(cases y<;>rfl)
def ahV(l:Loc)(op:List UInt8)(a:Val):Val:=
 if a.kind=4∨op=[43]then a else if op≠[45]∧op≠[37]then yT 5
 else if(yO l a).2≠0 then yT (yO l a).2
 else if op=[37]then ajW (atP (yO l a).1 4636737291354636288)else ajW (ajS (yO l a).1)
def bdK(a:Nat)(n:Int):Nat:=if zK a=4 then bcN else if n<0 then atP cgI (apK a n.natAbs 64 64)else apK a n.natAbs 64 64
def awI(x y:Nat):Val:=
 if afJ x 0=0∧afJ y 0=0 then yT 6 else if afJ x 0=0∧afJ y 0<0 then yT 2
 else if isN y=true∧(awH y).2=0∧ -1000000≤(awH y).1∧(awH y).1≤1000000 then ajW (bdK x (awH y).1)
 else if y=4602678819172646912 then ajW (aqN x)else yT 6
def bqF(x y:Nat):Val:=if afJ y 0=0 then yT 2 else ajW (atP x y)
def afR(l:Loc)(op:List UInt8)(a b:Val):Val:=
 if a.kind=4 then a else if b.kind=4 then b
 else if op=[61]then adH (decide (qI a b=0))else if op=[60,62]then adH (decide (qI a b≠0))
 else if op=[60]then adH (decide (qI a b<0))else if op=[60,61]then adH (decide (qI a b≤0))
 else if op=[62]then adH (decide (0<qI a b))else if op=[62,61]then adH (decide (0≤qI a b))
 else if op=[38]then aqB ((abA l a).1++(abA l b).1)
 else if¬(op=[43]∨op=[45]∨op=[42]∨op=[47]∨op=[94])then yT 5
 else if(yO l a).2≠0 then yT (yO l a).2 else if(yO l b).2≠0 then yT (yO l b).2
 else if op=[43]then ajW (afB (yO l a).1 (yO l b).1)
 else if op=[45]then ajW (afB (yO l a).1 (ajS (yO l b).1))
 else if op=[42]then ajW (baA (yO l a).1 (yO l b).1)
 else if op=[47]then bqF (yO l a).1 (yO l b).1
 else awI (yO l a).1 (yO l b).1
theorem cmZ:cnW=4636737291354636288:=by kernel_rfl
theorem cjV:brX=4602678819172646912:=by kernel_rfl
theorem blO{op:List UInt8}{a:Val}(ra:acN a=true):acV l op a=ahV l op a:=by
 unfold acV ahV;rw[afN ra,bbO,cmZ]
theorem ckQ(hy:y<18446744073709551616):ckR x y=bqF x y:=by
 unfold ckR bqF;rw[show alX y=afJ y 0 from apS hy aC,bbO]
theorem caV:(toN y).2=0→ -1000000≤(toN y).1→(toN y).1≤1000000→(toN y).1.natAbs<18446744073709551616:=λ_ h1 h2=>by omega
theorem ciL(hx:x<18446744073709551616)(hy:y<18446744073709551616):bqY x y=awI x y:=by
 unfold bqY awI;rw[show alX y=afJ y 0 from apS hy aC,show alX x=afJ x 0 from apS hx aC,bnZ,cjV];by_cases h1:afJ x 0=0∧afJ y 0=0
 ·grind
 rw[aL h1,aL h1];by_cases h2:afJ x 0=0∧afJ y 0<0
 ·grind
 rw[aL h2,aL h2];have ht:=coB y;by_cases h3:(toN y).2=0∧isN y=true∧ -1000000≤(toN y).1∧(toN y).1≤1000000
 ·have hs:=caV h3.1 h3.2.2.1 h3.2.2.2;rw[aN h3,←ht,aN ⟨h3.2.1,h3.1,h3.2.2⟩];unfold bfQ bdK;rw[cmG hs,bbO]
 grind
theorem bgN{op:List UInt8}{a b:Val}(ha:a.bits<18446744073709551616)(hb:b.bits<18446744073709551616)(ra:acN a=true)(rb:acN b=true):yR l op a b=afR l op a b:=by
 have na:=aeA (l:=l) ha;have nb:=aeA (l:=l) hb;unfold yR afR awQ;rw[ayY ha hb ra rb,aiC ra,aiC rb];simp only[ckQ nb,ciL na nb,bkD na nb,bkD na (amQ nb),bkB];rw[afN ra,afN rb];by_cases h43:op=[43]
 ·subst h43;rfl
 by_cases h45:op=[45]
 ·subst h45;rfl
 by_cases h42:op=[42]
 ·subst h42;rfl
 by_cases h47:op=[47]
 ·subst h47;rfl
 by_cases h94:op=[94]
 ·subst h94;rfl
 grind
end Go.Proofs.YtmmgbnolccpjoaaGreatDoor
