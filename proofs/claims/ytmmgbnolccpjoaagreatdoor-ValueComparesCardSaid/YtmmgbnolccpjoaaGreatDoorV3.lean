import Derived.Test.YtmmgbnolccpjoaaGreatDoorV2
set_option maxHeartbeats 1000000
namespace Go.Proofs.YtmmgbnolccpjoaaGreatDoor
open Go.Proofs.Tryz
open Go Go.RowKit
variable{L a m n x:Nat}{more:Bool}
theorem cbS{k:Nat}(h:n<2^(k-1)):rne n k more=0:=by
 have h1:n/2^(k-1)=0:=bW h;have h2:n/2^k=0:=bW (bM h (aW aC aA));unfold rne;rw[h1,h2,aI]
theorem biH{e:Int}(h:e+zY n≤ -1076)(he:e≤0):zV false n e more=0:=by
 unfold zV;split
 ·rfl
 rw[aI];have hu:yB n e= -1074:=by unfold yB;rw[aJ]
 have hm:acY n e more=0:=by
  rcases bJ n with h0|h0
  ·rename_i hn;exact absurd (.inl h0) hn
  have hb:=afE h0;unfold acY;rw[hu,aI];refine cbS (bM (ahO n) (aW aC aA))
 rw[hm,hu];rfl
theorem amF{e:Int}(h:1026≤e+zY n)(he: -10000≤e)(hn:0<n):zV false n e more=amY:=by
 unfold zV;rw[aI];split
 ·unfold qG;simp
 rw[baW];have hu:yB n e=e+zY n-53:=by unfold yB;rw[aI]
 have hg:=bxG (n:=n) (e:=e) (more:=more) aA hn;unfold qG pk;rw[aL aC,bZ];split
 ·unfold adY;rw[aI,aJ]
 unfold adY;rw[aI,aJ]
theorem chN:∃a b:Nat,a=1080∧b=330∧2^a≤10^b:=⟨1080,330,rfl,rfl,by decide+kernel⟩
theorem chO:∃a b:Nat,a=1026∧b=310∧2^a≤10^b:=⟨1026,310,rfl,rfl,by decide+kernel⟩
theorem bqD{k:Int}(hm:m<10^L)(hp:(L:Int)+k≤ -330)(hk: -2000≤k):amH m k=0:=by
 obtain⟨A,B,hA,hB,h330⟩:=chN;unfold amH;rw[aI];obtain⟨j,hj⟩:∃j:Nat,k= -(j:Int):=⟨(-k).toNat,by omega⟩;subst hj;rw[show(-(-(j:Int))).toNat=j by omega];have hjl:=akV j;unfold bdY;refine biH ?_ aA;generalize hK:zY (10^j)+127=K;have h1:m*2^K/10^j<2^(K-A)∧A≤K∨K<A:=by
  rcases cG K A with h|h
  ·exact .inr h
  refine .inl ⟨?_,h⟩;rw[bR (acW j)];have e1:2^K=2^(K-A)*2^A:=by rw[←bI];congr 1;omega
  have e2:10^L*10^B≤10^j:=by rw[←bI];exact aW aC aA
  rw[e1,bK m,bH];refine fW ?_ (bO aC)
  calc 2^A*m≤10^B*m:=bC _ h330
   _<10^B*10^L:=fW hm (acW _)
   _=10^L*10^B:=bK _ _
   _≤10^j:=e2
 rcases h1 with⟨h1,hKA⟩|h1
 ·have:=yQ.2 h1;omega
 exfalso;have h2:2^A≤10^j:=aZ h330 (aW aC aA);have:=qQ.2 h2;omega
theorem bqE{k:Int}(hm:10^L≤m)(hp:310≤(L:Int)+k)(hk: -2000≤k):amH m k=amY:=by
 obtain⟨A,B,hA,hB,h310⟩:=chO;have hm0:0<m:=bM (acW L) hm;unfold amH;split
 ·refine amF ?_ aC (fP hm0 (acW _));have h1:2^A≤m*10^k.toNat:=by
   refine aZ h310 (aZ (aW aC (show B≤L+k.toNat by omega)) ?_);rw[bI];exact bC _ hm
  have:=qQ.2 h1;omega
 obtain⟨j,hj⟩:∃j:Nat,k= -(j:Int):=⟨(-k).toNat,by omega⟩;subst hj;rw[show(-(-(j:Int))).toNat=j by omega];have hjl:=akV j;have h1:2^(zY (10^j)+127+A)≤m*2^(zY (10^j)+127)/10^j:=by
  rw[dJ (acW j),bI,bK m,bH];refine bV _ ?_;refine aZ (bC _ h310) ?_;rw[←bI];exact aZ (aW aC aA) hm
 have h2:=qQ.2 h1;unfold bdY;refine amF aA aA (bM (bO aC) h1)
/-! ### short decimals -/
theorem asJ{t:Nat}(h0:0<n)(h:n<9007199254740992)(ht:t≤500):∃j:Nat,j≤52∧yF (zV false n t false)=n*2^j∧yG (zV false n t false)=(t:Int)-j∧zK (zV false n t false)=2∧zV false n t false<9223372036854775808:=by
 have e53:(9007199254740992:Nat)=2^53:=by decide
 have hb:zY n≤53:=yQ.2 (by rw[←e53];exact h);have hb0:=afE h0;have hu:yB n t=(t:Int)+zY n-53:=by unfold yB;rw[aI]
 refine⟨53-zY n,by omega,?_⟩;have hm:acY n t false=n*2^(53-zY n):=by
  unfold acY;rw[hu,aJ];congr 2;omega
 have hlo:4503599627370496≤n*2^(53-zY n):=by
  have h1:=avN h0;have h2:=bC (2^(53-zY n)) h1;rw[←bI,show zY n-1+(53-zY n)=52 by omega]at h2;have e52:(4503599627370496:Nat)=2^52:=by decide
  omega
 have hhi:n*2^(53-zY n)<9007199254740992:=by
  have h2:=eD (ahO n) (show 0<2^(53-zY n)from bO aC);rw[←bI,show zY n+(53-zY n)=53 by omega]at h2;omega
 have hr:zV false n t false=n*2^(53-zY n)+(t+zY n+1021)*4503599627370496:=by
  unfold zV;rw[aI,aI,hm,hu,baW];unfold qG pk adY;rw[aL aC,bZ,aI,aI,aI];congr 2;omega
 rw[hr];generalize n*2^(53-zY n)=q at *;have hd:(q+(t+zY n+1021)*4503599627370496)/4503599627370496%2048=t+zY n+1022:=by omega
 have hmod:(q+(t+zY n+1021)*4503599627370496)%4503599627370496=q-4503599627370496:=by omega
 have hk:zK (q+(t+zY n+1021)*4503599627370496)=2:=by
  unfold zK;rw[hd,aI,aI]
 refine⟨?_,?_,hk,by omega⟩
 ·unfold yF;rw[hk,aL aC,aN rfl,hmod];omega
 unfold yG;rw[hk,aL aC,aN rfl,hd];omega
theorem bsC{b s t:Nat}(ha0:0<a)(ha:a<9007199254740992)(hb0:0<b)(hb:b<9007199254740992)(hs:s≤500)(ht:t≤500):afD (zV false a s false) (zV false b t false)=zV false (a*b) ((s+t:Nat):Int) false:=by
 obtain⟨i,hi,a1,a2,a3,a4⟩:=asJ ha0 ha hs;obtain⟨j,hj,b1,b2,b3,b4⟩:=asJ hb0 hb ht;have hn:aeH (zV false a s false) (zV false b t false)=false:=by
  unfold aeH;refine bB ?_;rw[bW (show _<2^63 from a4),bW (show _<2^63 from b4)];simp
 unfold afD;rw[a3,b3,aL aC,aL aC,hn,a1,a2,b1,b2];rw[show a*2^i*(b*2^j)=a*b*2^(i+j) by rw[bI,gH],acF aA aA];congr 1;omega
theorem caW(i:Nat)(hi:i≤500):zV false (10^i) 0 false=zV false (5^i) (i:Int) false:=by
 rw[show(10:Nat)=5*2 by decide,Nat.mul_pow,acF aC aA];congr 1;omega
theorem buC:∀i:Fin 23,chP i.1=zV false (10^i.1) 0 false:=by decide+kernel
theorem byO{j:Nat}(hm:0<m)(hm2:m<9007199254740992)(hj:j≤22):ckF m j=amH m (j:Int):=by
 have h5:5^j<9007199254740992:=aU (aW aC hj) aC;have hf:=bsC (s:=0) (t:=j) hm hm2 (bO aC:0<5^j) h5 aC aA;unfold ckF amH;rw[aJ,buC ⟨j,by omega⟩,caW j aA];rw[show((0:Nat):Int)=0 from rfl,bZ]at hf;rw[hf,show((j:Int)).toNat=j by omega,show(10:Nat)=5*2 by decide,Nat.mul_pow,←bH,acF aC aA];congr 1;omega
theorem ciY{c:UInt8}{r:List UInt8}(hc:isD c)(h0:c≠48):10^r.length≤num (c::r):=by
 rw[baZ];have:49≤c.toNat:=by
  rcases cG c.toNat 49 with h|h
  ·have h48:c.toNat=48:=by unfold isD at hc;omega
   exact absurd (UInt8.toNat_inj.1 (show c.toNat=(48:UInt8).toNat by simp only[UInt8.reduceToNat];omega)) h0
  exact h
 exact aZ (Nat.le_mul_of_pos_left _ aA) (fX _ _)
theorem bdM{ds:List UInt8}{e:Int}(h:qE ds e=true)(hne:ds≠[]):10^(ds.length-1)≤num ds∧num ds<10^ds.length:=by
 have hd:=qJ h;refine⟨?_,aiN hd⟩
 match ds,hne with
 |c::r,_=>
  refine ciY (hd c aF) ?_;rintro rfl;unfold qE at h;simp at h
theorem buP{ds:List UInt8}{e:Int}(h:qE ds e=true)(hne:ds≠[])(hp: -400≤(ds.length:Int)+e∧(ds.length:Int)+e≤400):akB ds e=amH (num ds) e:=by
 have hd:=qJ h;have hl:=qT h;have hlp:=bS.2 hne;obtain⟨hn1,hn2⟩:=bdM h hne;have hn0:0<num ds:=bM (acW _) hn1;unfold akB;by_cases h1:(ds.length:Int)+e< -330
 ·rw[aN (.inr h1),bqD hn2 aA aA]
 rw[aL (λq=>q.elim hne h1)];by_cases h2:310<(ds.length:Int)+e
 ·rw[aN h2,bqE hn1 aA aA]
 rw[aL h2];by_cases h3:ds.length≤19
 ·rw[aN h3];by_cases h4:ds.length≤15∧0≤e∧e≤22
  ·rw[aN h4];have h15:num ds<9007199254740992:=bM hn2 (aZ (aW aC h4.1) aC);have:=byO hn0 h15 (j:=e.toNat) aA;rw[this];congr 1;omega
  rw[aL h4];split
  ·rename_i hq
   exact biS hn0 aA hq
  exact bdE hn0 aA
 rw[aL h3];exact bdE hn0 aA
section
open Go Go.RowKit
set_option maxRecDepth 100000
theorem arY(h:1≤zK x∧zK x≤2):4503599627370496≤aaM x∧aaM x<9007199254740992∧zY (yF x)≤53:=by
 have h0:0<yF x:=by
  unfold yF;split
  ·rename_i q
   unfold zK at h q
   revert h q
   repeat' split
   all_goals omega
  rw[aJ];omega
 have hl:=qD x;have hb:zY (yF x)≤53:=yQ.2 (dE hl aC);have h1:0<zY (yF x):=qQ.2 (by rw[dI];exact h0);have h2:yF x<2^zY (yF x):=yQ.1 (aV _);have h3:2^(zY (yF x)-1)≤yF x:=qQ.1 aA;unfold aaM;refine⟨?_,?_,hb⟩
 ·have:=bC (2^(53-zY (yF x))) h3;rw[←bI,show zY (yF x)-1+(53-zY (yF x))=52 by omega]at this;exact aZ aC this
 have:=(Nat.mul_lt_mul_right (a:=2^(53-zY (yF x))) (bO aC)).2 h2;rw[←bI,show zY (yF x)+(53-zY (yF x))=53 by omega]at this;exact dE this aC
theorem akN(x:Nat)(h:zY (yF x)≤53): -1128≤afL x∧afL x≤972:=by
 have:=yM x;unfold afL;omega
theorem chI:u2 (m*2^64)= .agg [.int .u64 (m:Int),.int .u64 0]:=by
 unfold u2 w2;rw[←agX,fO _ aC,Nat.mul_mod_left];rfl
theorem cjU(h:m<9007199254740992):m*2^64<M2:=by
 have h2:m*2^64≤9007199254740991*2^64:=bC _ aA;exact aU h2 aE
theorem chE{neg:Bool}:neg=true→x<9223372036854775808→(x|||9223372036854775808)=qG neg+x:=by
 intro h hx;rw[bjK hx,h];rfl
theorem chW(h:aaM x<9007199254740992):adA x<170141183460469231731687303715884105728∧(afO x=73∨afO x=74):=by
 have hk:afO x=73∨afO x=74:=by unfold afO;split<;>omega
 refine⟨?_,hk⟩;have h1:2^afO x≤2^74:=aW aC aA;have h2:adA x≤9007199254740991*2^74:=cS aA h1;exact aU h2 aC
section
variable{P:Program}{env:Env}{H:Heap}{dst:Option Tmp}{ty:TypeId}{pos:String}{af:Array Edge}{gd:Option (Nat×Bool)}
def cdJ(m q:Int):Int:=IntKind.i64.wrap ((BitVec.ofInt 64 m&&&BitVec.ofInt 64 q).toNat:Int)
theorem bxY(m:Int):cdJ m 1=m%2:=by
 unfold cdJ;rw[BitVec.toNat_and,BitVec.toNat_ofInt,BitVec.toNat_ofInt];have e:((1:Int)%((2^64:Nat):Int)).toNat=2^1-1:=by decide
 rw[e,dC];rw[ahS (by simp[IntKind.min,IntKind.signed,IntKind.bits];omega) (by simp[IntKind.max,IntKind.bits,IntKind.signed];omega)];omega
theorem bwF{T T':TypeId}{x y:Operand}{m q:Int}(hx:Ev env x (.int .i64 m))(hy:Ev env y (.int .i64 q)):APure P ⟨dst,.binOp .and T x y T',ty,pos,af,gd⟩ env (.int .i64 (cdJ m q)):=
 qP hx hy λ_=>⟨_,.int _ _,λw=>by simp[binOp,Op.intBits,cdJ];rfl⟩
theorem bqW{T T':TypeId}{x y:Operand}{m:Int}(hx:Ev env x (.int .i64 m))(hy:Ev env y (.int .i64 1)):APure P ⟨dst,.binOp .and T x y T',ty,pos,af,gd⟩ env (.int .i64 (m%2)):=by
 rw[←bxY];exact bwF hx hy
end
theorem arV{n:Int}(h0:n<0)(h1: -1000000≤n):IntKind.u64.wrap (0-IntKind.u64.wrap n)=((n.natAbs:Nat):Int):=by
 simp only[IntKind.wrap,IntKind.bits,IntKind.signed];simp;omega
theorem powS{u i p:Nat}(hp:p=apK a u L i):apK a u L (i+1)=if u/2^(L-1-i)%2=1 then afD (afD p p) a else afD p p:=by rw[hp];rfl
theorem ajA(a:Nat)(ha:a<18446744073709551616):Fn 116 [.int .u64 (a:Int)] (.bool (decide (zK a=4))):=by
 intro H;refine .of_body func116 rfl ntmps116 results116 rfl ?_;iterate 8 refine AX ?_
 refine .cl rfl C89 (evs1 rfl) (aaA _ aB _) ?_;iterate 6 refine AX ?_
 refine⟨?_,rfl⟩;exact congrArg AV.bool (aT.2 aA)
theorem adC(a:Nat)(ha:a<18446744073709551616):Fn 117 [.int .u64 (a:Int)] (.bool (decide (zK a=3))):=by
 intro H;refine .of_body func117 rfl ntmps117 results117 rfl ?_;iterate 8 refine AX ?_
 refine .cl rfl C89 (evs1 rfl) (aaA _ aB _) ?_;iterate 6 refine AX ?_
 refine⟨?_,rfl⟩;exact congrArg AV.bool (aT.2 aA)
theorem adP(a:Nat)(ha:a<18446744073709551616):Fn 118 [.int .u64 (a:Int)] (.bool (decide (zK a=0))):=by
 intro H;refine .of_body func118 rfl ntmps118 results118 rfl ?_;iterate 8 refine AX ?_
 refine .cl rfl C89 (evs1 rfl) (aaA _ aB _) ?_;iterate 6 refine AX ?_
 refine⟨?_,rfl⟩;exact congrArg AV.bool (aT.2 aA)
theorem atS(neg:Bool)(x:Nat)(hx:x<9223372036854775808):Fn 119 [.bool neg,.int .u64 (x:Int)] (.int .u64 ((qG neg+x:Nat):Int)):=by
 intro H;refine .of_body func119 rfl ntmps119 results119 rfl ?_;iterate 11 refine AM ?_
 refine .cx rfl (λhc5=>?_) (λhc5=>?_)
 ·iterate 10 refine AM ?_
  refine⟨?_,rfl⟩;rw[←chE hc5 hx];rfl
 iterate 10 refine AX ?_
 refine⟨?_,rfl⟩;rw[show neg=false by simpa using hc5,show qG false+x=x from bZ x];rfl
theorem amP(a:Nat)(ha:a<18446744073709551616)(hk:1≤zK a∧zK a≤2):Fn 120 [.int .u64 (a:Int)] (.tuple [.int .u64 ((aaM a:Nat):Int),.int .i64 (afL a)]):=by
 intro H;have hpa:=yM a;have hpm:=qD a;obtain⟨hl1,hl2,hl3⟩:=arY hk;refine .of_body func120 rfl ntmps120 results120 rfl ?_;iterate 3 refine AM ?_
 iterate 6 refine AX ?_
 refine .cl rfl C181 (evs1 rfl) (acM _ aB _) ?_;iterate 12 refine AX ?_
 refine .cl rfl C182 (evs1 rfl) (len64A _ aA _) ?_;refine .p rfl (.as (b:=.int .i64 ((53-zY (yF a):Nat):Int)) (by congr 1;omega) (adK zH (tm rfl) aA)) ?_;iterate 7 refine AX ?_
 refine .p rfl (qB (tm rfl) (tm rfl) aA (by show aaM a<18446744073709551616;omega)) ?_;iterate 9 refine AX ?_
 exact⟨rfl,rfl⟩
theorem aiQ(a b:Nat)(ha:a<18446744073709551616)(hb:b<18446744073709551616):Fn 54 [.int .u64 (a:Int),.int .u64 (b:Int)] (.int .u64 ((apR a b:Nat):Int)):=by
 intro H;have hka:=aaF a;have hkb:=aaF b;refine .of_body func54 rfl ntmps54 results54 rfl ?_;iterate 17 refine AM ?_
 refine .seqTo 18 (.bool (decide (aaT a b))) [0,1,4,5] ?_ ?_
 ·iterate 2 refine AX ?_
  refine .cl rfl C116 (evs1 rfl) (ajA _ aB _) ?_;refine AX ?_;refine zC (t:=21) rfl (λhg21=>?_) (λhg21=>?_)
  ·have hh21:=hg21;try simp only[aO]at hh21
   iterate 21 refine AX ?_
   exact⟨rfl,zL rfl (by(refine Eq.symm ?_;unfold aaT;exact aY aA)) sX,rfl⟩
  have hh21:=hg21;try simp only[aM]at hh21
  refine AX ?_;refine .gs rfl rfl rfl aB (zB C116 (evs1 rfl) (ajA _ aB _)) ?_;rintro _ _ ⟨rfl,hH⟩;obtain rfl:=hH.symm;iterate 2 refine AX ?_
  refine zC (t:=25) rfl (λhg25=>?_) (λhg25=>?_)
  ·have hh25:=hg25;try simp only[aO]at hh25
   iterate 17 refine AX ?_
   exact⟨rfl,zL rfl (by(refine Eq.symm ?_;unfold aaT;exact aY aA)) sX,rfl⟩
  have hh25:=hg25;try simp only[aM]at hh25
  refine AX ?_;refine .gs rfl rfl rfl aB (zB C117 (evs1 rfl) (adC _ aB _)) ?_;rintro _ _ ⟨rfl,hH⟩;obtain rfl:=hH.symm;refine AX ?_;refine zC (t:=28) rfl (λhg28=>?_) (λhg28=>?_)
  ·have hh28:=hg28;try simp only[aO]at hh28
   refine AX ?_;refine .gs rfl rfl rfl aB (zB C117 (evs1 rfl) (adC _ aB _)) ?_;rintro _ _ ⟨rfl,hH⟩;obtain rfl:=hH.symm;iterate 3 refine AX ?_
   refine zC (t:=33) rfl (λhg33=>?_) (λhg33=>?_)
   ·have hh33:=hg33;try simp only[aO]at hh33
    iterate 9 refine AX ?_
    exact⟨rfl,zL rfl (by(refine Eq.symm ?_;unfold aaT;exact aY aA)) sX,rfl⟩
   have hh33:=hg33;try simp only[aM]at hh33
   refine AX ?_;refine .gs rfl rfl rfl aB (zB C118 (evs1 rfl) (adP _ aB _)) ?_;rintro _ _ ⟨rfl,hH⟩;obtain rfl:=hH.symm;refine AX ?_;refine zC (t:=36) rfl (λhg36=>?_) (λhg36=>?_)
   ·have hh36:=hg36;try simp only[aO]at hh36
    refine AX ?_;refine .gs rfl rfl rfl aB (zB C118 (evs1 rfl) (adP _ aB _)) ?_;rintro _ _ ⟨rfl,hH⟩;obtain rfl:=hH.symm;iterate 4 refine AX ?_
    exact⟨rfl,zL rfl (by(refine Eq.symm ?_;unfold aaT;exact aT.2 aA)) sX,rfl⟩
   have hh36:=hg36;try simp only[aM]at hh36
   iterate 6 refine AX ?_
   exact⟨rfl,zL rfl (by(refine Eq.symm ?_;unfold aaT;exact bB aA)) sX,rfl⟩
  have hh28:=hg28;try simp only[aM]at hh28
  iterate 6 refine AX ?_
  refine .gs rfl rfl rfl aD (zB C118 (evs1 rfl) (adP _ aB _)) ?_;rintro _ _ ⟨rfl,hH⟩;obtain rfl:=hH.symm;refine AX ?_;refine zC (t:=36) rfl (λhg36=>?_) (λhg36=>?_)
  ·have hh36:=hg36;try simp only[aO]at hh36
   refine AX ?_;refine .gs rfl rfl rfl aB (zB C118 (evs1 rfl) (adP _ aB _)) ?_;rintro _ _ ⟨rfl,hH⟩;obtain rfl:=hH.symm;iterate 4 refine AX ?_
   exact⟨rfl,zL rfl (by(refine Eq.symm ?_;unfold aaT;exact aT.2 aA)) sX,rfl⟩
  have hh36:=hg36;try simp only[aM]at hh36
  iterate 6 refine AX ?_
  exact⟨rfl,zL rfl (by(refine Eq.symm ?_;unfold aaT;exact bB aA)) sX,rfl⟩
 refine .sub [(18,_),(0,_),(1,_),(4,_),(5,_)] sX ?_;refine .cx rfl (λhc18=>?_) (λhc18=>?_)
 ·iterate 9 refine AM ?_
  refine⟨?_,rfl⟩;unfold apR;rw[aN hc18];rfl
 have hdn:=hc18;unfold aaT at hc18;refine .seqTo 41 (.bool (decide (zK a=3∨zK b=0))) [0,1,4,5] ?_ ?_
 ·iterate 2 refine AX ?_
  refine .cl rfl C117 (evs1 rfl) (adC _ aB _) ?_;refine AX ?_;refine zC (t:=44) rfl (λhg44=>?_) (λhg44=>?_)
  ·have hh44:=hg44;try simp only[aO]at hh44
   iterate 5 refine AX ?_
   exact⟨rfl,zL rfl (by(refine Eq.symm ?_;exact aY aA)) sX,rfl⟩
  have hh44:=hg44;try simp only[aM]at hh44
  refine AX ?_;refine .gs rfl rfl rfl aB (zB C118 (evs1 rfl) (adP _ aB _)) ?_;rintro _ _ ⟨rfl,hH⟩;obtain rfl:=hH.symm;iterate 3 refine AX ?_
  exact⟨rfl,zL rfl (by(refine Eq.symm ?_;exact aT.2 aA)) sX,rfl⟩
 refine .sub [(41,_),(0,_),(1,_),(4,_),(5,_)] sX ?_;refine .cx rfl (λhc41=>?_) (λhc41=>?_)
 ·iterate 3 refine AX ?_
  refine .cl rfl call119 (.cons (tm rfl) (.cons (zR 9218868437227405312) .nil)) (atS _ _ aC _) ?_;iterate 7 refine AX ?_
  refine⟨?_,rfl⟩;unfold apR;rw[aL hdn,aN hc41];rfl
 refine .seqTo 50 (.bool (decide (zK a=0∨zK b=3))) [0,1,4,5] ?_ ?_
 ·iterate 2 refine AX ?_
  refine .cl rfl C118 (evs1 rfl) (adP _ aB _) ?_;refine AX ?_;refine zC (t:=53) rfl (λhg53=>?_) (λhg53=>?_)
  ·have hh53:=hg53;try simp only[aO]at hh53
   iterate 5 refine AX ?_
   exact⟨rfl,zL rfl (by(refine Eq.symm ?_;exact aY aA)) sX,rfl⟩
  have hh53:=hg53;try simp only[aM]at hh53
  refine AX ?_;refine .gs rfl rfl rfl aB (zB C117 (evs1 rfl) (adC _ aB _)) ?_;rintro _ _ ⟨rfl,hH⟩;obtain rfl:=hH.symm;iterate 3 refine AX ?_
  exact⟨rfl,zL rfl (by(refine Eq.symm ?_;exact aT.2 aA)) sX,rfl⟩
 refine .sub [(50,_),(0,_),(1,_),(4,_),(5,_)] sX ?_;refine .cx rfl (λhc50=>?_) (λhc50=>?_)
 ·iterate 3 refine AX ?_
  refine .cl rfl call119 (.cons (tm rfl) (.cons (zR 0) .nil)) (atS _ _ aC _) ?_;iterate 7 refine AX ?_
  refine⟨?_,rfl⟩;unfold apR;rw[aL hdn,aL hc41,aN hc50];rfl
 obtain⟨ha1,ha2,ha3⟩:=arY (x:=a) aA;obtain⟨hb1,hb2,hb3⟩:=arY (x:=b) aA;have hea:=akN a ha3;have heb:=akN b hb3;have hhi:=cjU ha2;have hql:aaM a*2^64/aaM b<M2:=aU (cY _ _) hhi;iterate 6 refine AX ?_
 refine .cl rfl call120 (evs1 rfl) (amP a ha aA _) ?_;iterate 10 refine AX ?_
 refine .cl rfl call120 (evs1 rfl) (amP b hb aA _) ?_;iterate 10 refine AX ?_
 refine .p rfl (zX zr149 pl149 (.cons (tm rfl) (.inl rfl) .nil) rfl) ?_;refine AX ?_;refine .cl rfl call121 (evs2 rfl rfl) ((by have h:=λH=>bpD (aaM a*2^64) (aaM b) hhi aA aA H;rw[chI]at h;exact h _)) ?_;iterate 4 refine AX ?_
 refine .al zr149 (λb10 hb10=>?_);iterate 5 refine AX ?_
 refine .frz (t:=10) rfl (hb10) ?_;iterate 9 refine AX ?_
 refine AM ?_;refine .cl rfl C122 (.cons (tm rfl) (evs3 rfl rfl rfl)) (adX _ _ hql _ aA _ _) ?_;iterate 5 refine AX ?_
 refine⟨?_,rfl⟩;unfold apR;rw[aL hdn,aL hc41,aL hc50];rw[show decide (aaM a*2^64%aaM b≠0)=decide (((0:Nat):Int)<((aaM a*2^64%aaM b:Nat):Int))from aT.2 aA];rfl
theorem avB(a:Nat)(ha:a<18446744073709551616):Fn 137 [.int .u64 (a:Int)] (.int .u64 ((aoG a:Nat):Int)):=by
 intro H;have hka:=aaF a;refine .of_body func137 rfl ntmps137 results137 rfl ?_;iterate 7 refine AM ?_
 refine .seqTo 8 (.bool (decide (zK a=4∨9223372036854775808<a))) [0,2] ?_ ?_
 ·iterate 2 refine AX ?_
  refine .cl rfl C116 (evs1 rfl) (ajA _ aB _) ?_;refine AX ?_;refine zC (t:=11) rfl (λhg11=>?_) (λhg11=>?_)
  ·have hh11:=hg11;try simp only[aO]at hh11
   iterate 5 refine AX ?_
   exact⟨rfl,zL rfl (by(refine Eq.symm ?_;exact aY aA)) sX,rfl⟩
  have hh11:=hg11;try simp only[aM]at hh11
  iterate 5 refine AM ?_
  exact⟨rfl,zL rfl (by(refine Eq.symm ?_;exact aT.2 aA)) sX,rfl⟩
 refine .sub [(8,_),(0,_),(2,_)] sX ?_;refine .cx rfl (λhc8=>?_) (λhc8=>?_)
 ·iterate 9 refine AM ?_
  refine⟨?_,rfl⟩;unfold aoG;rw[aN hc8];rfl
 refine .seqTo 15 (.bool (decide (zK a=0∨zK a=3))) [0,2] ?_ ?_
 ·iterate 2 refine AX ?_
  refine .cl rfl C118 (evs1 rfl) (adP _ aB _) ?_;refine AX ?_;refine zC (t:=18) rfl (λhg18=>?_) (λhg18=>?_)
  ·have hh18:=hg18;try simp only[aO]at hh18
   iterate 5 refine AX ?_
   exact⟨rfl,zL rfl (by(refine Eq.symm ?_;exact aY aA)) sX,rfl⟩
  have hh18:=hg18;try simp only[aM]at hh18
  refine AX ?_;refine .gs rfl rfl rfl aB (zB C117 (evs1 rfl) (adC _ aB _)) ?_;rintro _ _ ⟨rfl,hH⟩;obtain rfl:=hH.symm;iterate 3 refine AX ?_
  exact⟨rfl,zL rfl (by(refine Eq.symm ?_;exact aT.2 aA)) sX,rfl⟩
 refine .sub [(15,_),(0,_),(2,_)] sX ?_;refine .cx rfl (λhc15=>?_) (λhc15=>?_)
 ·iterate 10 refine AX ?_
  refine⟨?_,rfl⟩;unfold aoG;rw[aL hc8,aN hc15];rfl
 obtain⟨ha1,ha2,ha3⟩:=arY (x:=a) aA;have hea:=akN a ha3;obtain⟨hsm,hsk⟩:=chW ha2;have hsM:adA a<M2:=cL hsm aE;have hr64:=(bmF (n:=adA a) (by rw[show(2:Nat)^128=M2 by decide+kernel];exact hsM));iterate 6 refine AX ?_
 refine .cl rfl call120 (evs1 rfl) (amP a ha aA _) ?_;iterate 12 refine AX ?_
 refine .seqToL [(5,.int .i64 ((afO a:Nat):Int))] [2,3,4] ?_ ?_
 ·iterate 5 refine AX ?_
  refine .p rfl (bqW (tm rfl) zH) ?_;iterate 3 refine AX ?_
  refine .cx rfl (λhc32=>?_) (λhc32=>?_)
  ·iterate 5 refine AX ?_
   exact⟨rfl,(zM rfl (by congr 1;unfold afO;split<;>omega) sX),rfl⟩
  refine AX ?_;exact⟨rfl,(zM rfl (by congr 1;unfold afO;split<;>omega) sX),rfl⟩
 refine .sub [(5,_),(2,_),(3,_),(4,_)] sX ?_;iterate 3 refine AX ?_
 refine .p rfl (zX zr149 pl149 (.cons (tm rfl) (.inl rfl) .nil) rfl) ?_;refine AX ?_;refine .cl rfl C187 (evs2 rfl rfl) ((by have h:=λH=>wShlU (aaM a) (afO a) aA _ rfl H;rw[amZ (show aaM a<M1 by unfold M1;omega)]at h;exact h _)) ?_;rw[bE (show aaM a*2^afO a<M2 from hsM)];refine .cl rfl call197 (evs1 rfl) (bhF (adA a) hsM _) ?_;iterate 8 refine AX ?_
 have hrl:aaI (adA a) 64 0<M1:=by
  have h1:=hr64.1;rcases cG (aaI (adA a) 64 0) M1 with h|h
  ·exact h
  have h2:=cS h h;rw[←blH]at h2;omega
 iterate 2 refine AX ?_
 refine .p rfl (zX zr149 pl149 (.cons (tm rfl) (.inl rfl) .nil) rfl) ?_;iterate 3 refine AX ?_
 refine .p rfl (.as (b:=.int .i64 ((afL a-afO a)/2)) (by congr 1;show Int.fdiv _ (2^1)=_;rw[clU];rfl) (baN (tm rfl) zH aC)) ?_;iterate 2 refine AX ?_
 refine .cl rfl C122 (.cons yK (evs3 rfl rfl rfl)) ((by have h:=λH=>adX false (aaI (adA a) 64 0) (cL hrl aE) ((afL a-afO a)/2) aA (!decide (aaI (adA a) 64 0*aaI (adA a) 64 0=adA a)) H;rw[amZ hrl]at h;exact h _)) ?_;iterate 5 refine AX ?_
 refine⟨?_,rfl⟩;unfold aoG;rw[aL hc8,aL hc15,decide_not];rfl
def byM(a u L:Nat)(n:Int)(H:Heap):Nat→Env→Heap→Prop:=λk env H1=>∃i:Nat,i≤L∧env=[(0,.int .u64 (a:Int)),(1,.int .i64 n),(5,.int .u64 (u:Int)),(6,.int .u64 ((apK a u L i:Nat):Int)),(17,.int .i64 (L:Int)),(18,.int .i64 (i:Int))]∧H=H1∧k=L-i
theorem ayR(a:Nat)(ha:a<18446744073709551616)(n:Int)(hn: -1000000≤n∧n≤1000000):Fn 136 [.int .u64 (a:Int),.int .i64 n] (.int .u64 ((bfQ a n:Nat):Int)):=by
 intro H;obtain⟨u,hu⟩:∃u,u=n.natAbs:=⟨_,rfl⟩;have hu64:u<18446744073709551616:=by omega
 have hbl:zY u≤64:=yQ.2 (dE hu64 aC);refine .of_body func136 rfl ntmps136 results136 rfl ?_;iterate 9 refine AM ?_
 refine .cl rfl C116 (evs1 rfl) (ajA _ aB _) ?_;iterate 2 refine AX ?_
 refine .cx rfl (λhc9=>?_) (λhc9=>?_)
 ·iterate 8 refine AM ?_
  refine⟨?_,rfl⟩;unfold bfQ;rw[aN (by simpa using hc9)];rfl
 iterate 5 refine AX ?_
 refine .p rfl (afY U3 U22 (tm rfl)) ?_;iterate 3 refine AX ?_
 refine .seqToL [(5,.int .u64 ((u:Nat):Int))] [0,1,4] ?_ ?_
 ·iterate 6 refine AX ?_
  refine .cx rfl (λhc13=>?_) (λhc13=>?_)
  ·iterate 2 refine AX ?_
   refine .p rfl (akL (tm rfl)) ?_;iterate 2 refine AX ?_
   exact⟨rfl,(zM rfl (by rw[hu];congr 1;first|exact arV aA hn.1|(rw[wrap64 (n:=n) aA aA];omega)) sX),rfl⟩
  refine AX ?_;exact⟨rfl,(zM rfl (by rw[hu];congr 1;first|exact arV aA hn.1|(rw[wrap64 (n:=n) aA aA];omega)) sX),rfl⟩
 refine .sub [(5,_),(0,_),(1,_),(4,_)] sX ?_;iterate 9 refine AM ?_
 refine .cl rfl C182 (evs1 rfl) (len64A _ aB _) ?_;iterate 4 refine AX ?_
 refine .loopW (byM a u (zY u) n H) (zY u) ⟨0,Nat.zero_le _,rfl,rfl,rfl⟩ sX (hRa _) ?_;rintro _ _ _ ⟨i,hi,rfl,rfl,hk⟩;iterate 6 refine AX ?_
 refine .cx rfl (λhc19=>?_) (λhc19=>?_)
 ·have hpl:=apJ a u (zY u) i;have hml:=alH (apK a u (zY u) i) (apK a u (zY u) i);have hst:=powS (a:=a) (u:=u) (L:=zY u) (i:=i) rfl;have hil:i<zY u:=by omega
  have hdl:u/2^(zY u-1-i)<18446744073709551616:=aU (cY _ _) hu64;iterate 14 refine AX ?_
  refine .cl rfl C133 (evs2 rfl rfl) (aiP _ _ aB aB _) ?_;iterate 7 refine AX ?_
  refine .cl rfl C182 (evs1 rfl) (len64A _ aB _) ?_;iterate 2 refine AX ?_
  refine .p rfl (.as (b:=.int .i64 ((zY u-1-i:Nat):Int)) (by congr 1;omega) (adK (tm rfl) (tm rfl) aA)) ?_;iterate 5 refine AM ?_
  refine .cx rfl (λhc32=>?_) (λhc32=>?_)
  ·rw[aN (by rw[←Nat.and_one_is_mod];omega)]at hst;iterate 3 refine AX ?_
   refine .cl rfl C133 (evs2 rfl rfl) (aiP _ _ aB aB _) ?_;iterate 9 refine AX ?_
   refine Round.mk ⟨i+1,by omega,rfl,rfl,rfl⟩ (zI rfl (zI rfl (zI rfl (zM rfl (by rw[hst]) sX)))) (hRa _) aA
  rw[aL (by rw[←Nat.and_one_is_mod];omega)]at hst;iterate 8 refine AX ?_
  refine Round.mk ⟨i+1,by omega,rfl,rfl,rfl⟩ (zI rfl (zI rfl (zI rfl (zM rfl (by rw[hst]) sX)))) (hRa _) aA
 obtain rfl:i=zY u:=by omega
 have hpl:=apJ a u (zY u) (zY u);iterate 12 refine AX ?_
 refine .cx rfl (λhc38=>?_) (λhc38=>?_)
 ·iterate 3 refine AX ?_
  refine .cl rfl C54 (.cons (zR 4607182418800017408) (evs1 rfl)) (aiQ _ _ aC aB _) ?_;iterate 6 refine AX ?_
  refine⟨?_,rfl⟩;unfold bfQ;rw[aL (by simpa using hc9),aJ,←hu];rfl
 iterate 10 refine AX ?_
 refine⟨?_,rfl⟩;unfold bfQ;rw[aL (by simpa using hc9),aI,←hu];rfl
end
section
open Go Go.RowKit
set_option maxRecDepth 100000
theorem zr208:ZR 208 [.bool false,.bool false,.bool false,.int .u64 0]:=ZRi zeroValue208
theorem pl208:PL 208 [(0,1),(1,1),(2,1),(3,1)]:=PLi U208
def spA(neg half rest:Bool)(n:Nat):AV:=.agg [.bool neg,.bool half,.bool rest,.int .u64 (n:Int)]
def aqZ(a:Nat):Bool:=decide (yG a<0∧yF a/2^((-yG a).toNat-1)%2=1)
def aqY(a:Nat):Bool:=decide (yG a<0∧yF a%2^((-yG a).toNat-1)≠0)
def apN(a:Nat):Nat:=if yG a<0 then yF a/2^(-yG a).toNat else yF a
theorem cmN(h:¬yG a<0):aqZ a=false∧aqY a=false∧apN a=yF a:=⟨bB aA,bB aA,aL h⟩
theorem ccM{k:Nat}(h:yG a<0)(hk:k=(-yG a).toNat-1):decide (((yF a/2^k&&&1:Nat):Int)=((1:Nat):Int))=aqZ a∧decide (yF a%2^k≠0)=aqY a∧yF a/2^k/2^1=apN a:=by
 subst hk;refine⟨aT.2 ?_,aT.2 ?_,?_⟩
 ·rw[Nat.and_one_is_mod];omega
 ·constructor
  ·exact λq=>⟨h,q⟩
  exact λq=>q.2
 unfold apN;rw[aN h,gD,byD aA]
theorem coD(a:Nat):(aqZ a||aqY a)= !(decide (0≤yG a)||decide (yF a%2^(-yG a).toNat=0)):=by
 unfold aqZ aqY;by_cases h:yG a<0
 ·have q:=byB (m:=yF a) (k:=(-yG a).toNat) aA;rw[←Bool.decide_or,←Bool.decide_or,←decide_not];refine aT.2 ?_;constructor
  ·rintro(q1|q1)
   ·have:=q.1 (.inl q1.2);omega
   have:=q.1 (.inr q1.2);omega
  intro q1;rcases q.2 aA with q2|q2
  ·exact .inl ⟨h,q2⟩
  exact .inr ⟨h,q2⟩
 rw[bB aA,bB aA,aY aA];rfl
def toM(x:Nat):Nat:=if yG x<0 then yF x/2^(-yG x).toNat else yF x*2^(yG x).toNat
theorem chL(h:3≤zK x):toN x=(0,11):=aN h
theorem blQ(h:¬3≤zK x):toN x=if 0≤yG x∧11<yG x then(0,6)
  else if aeK x=true then(if toM x≤9223372036854775808 then(-(toM x:Int),0)else(0,6))else(if toM x<9223372036854775808 then((toM x:Int),0)else(0,6)):=aL h
theorem cfP{e:Int}(hm:m<9007199254740992)(h:e≤11):m*2^e.toNat<18446744073709551616:=by
 have h1:2^e.toNat≤2^11:=aW aC aA;have h2:m*2^e.toNat≤9007199254740991*2^11:=cS aA h1;exact aU h2 aC
theorem bnF(h:n≤9223372036854775808):IntKind.i64.wrap (IntKind.u64.wrap (0-(n:Int)))= -(n:Int):=by
 simp only[IntKind.wrap,IntKind.bits,IntKind.signed];simp;split<;>omega
theorem cnP(x:Nat):clM x<9223372036854775808:=by
 unfold clM bcN;split<;>omega
theorem bwK(h:9223372036854775808≤x):anW x= -((clM x:Nat):Int):=aN h
theorem bwJ(h:¬9223372036854775808≤x):anW x=(x:Int):=aL h
theorem auH(a:Nat)(ha:a<18446744073709551616):Fn 172 [.int .u64 (a:Int)] (.int .i64 (anW a)):=by
 intro H;have hab:=cnP a;have h63:(2:Nat)^63=9223372036854775808:=by decide
 refine .of_body func172 rfl ntmps172 results172 rfl ?_;iterate 9 refine AX ?_
 iterate 4 refine AM ?_
 refine .cx rfl (λhc5=>?_) (λhc5=>?_)
 ·iterate 3 refine AX ?_
  refine .cl rfl call228 (evs1 rfl) (bsJ _ aB _) ?_;iterate 8 refine AX ?_
  refine⟨?_,rfl⟩;rw[h63]at hc5;rw[bwK aA];rfl
 iterate 5 refine AX ?_
 refine .p rfl (aaD U22 U3 (tm rfl) (wrapI64 aA (by rw[h63]at hc5;omega))) ?_;iterate 5 refine AX ?_
 refine⟨?_,rfl⟩;rw[h63]at hc5;rw[bwJ aA];rfl
theorem ayT(a b:Nat)(ha:a<18446744073709551616)(hb:b<18446744073709551616):Fn 105 [.int .u64 (a:Int),.int .u64 (b:Int)] (.tuple [.int .i64 (bbP a b),.bool (!decide (zK a=4∨zK b=4))]):=by
 intro H;refine .of_body func105 rfl ntmps105 results105 rfl ?_;iterate 7 refine AX ?_
 refine .seqTo 15 (.bool (decide (zK a=4∨zK b=4))) [0,1,4,5] ?_ ?_
 ·iterate 2 refine AX ?_
  refine .cl rfl C89 (evs1 rfl) (aaA _ aB _) ?_;iterate 2 refine AX ?_
  refine zC (t:=11) rfl (λhg11=>?_) (λhg11=>?_)
  ·have hh11:=hg11;try simp only[aO]at hh11
   iterate 5 refine AX ?_
   exact⟨rfl,zL rfl (by(refine Eq.symm ?_;exact aY aA)) sX,rfl⟩
  have hh11:=hg11;try simp only[aM]at hh11
  refine AX ?_;refine .gs rfl rfl rfl aB (zB C89 (evs1 rfl) (aaA _ aB _)) ?_;rintro _ _ ⟨rfl,hH⟩;obtain rfl:=hH.symm;iterate 3 refine AX ?_
  exact⟨rfl,zL rfl (by(refine Eq.symm ?_;exact aT.2 aA)) sX,rfl⟩
 refine .sub [(15,_),(0,_),(1,_),(4,_),(5,_)] sX ?_;refine .cx rfl (λhc15=>?_) (λhc15=>?_)
 ·iterate 9 refine AX ?_
  refine⟨?_,rfl⟩;unfold bbP;rw[aN hc15,aY hc15];rfl
 iterate 6 refine AX ?_
 refine .cl rfl call172 (evs1 rfl) (auH _ aB _) ?_;refine AX ?_;refine .cl rfl call172 (evs1 rfl) (auH _ aB _) ?_;iterate 13 refine AX ?_
 refine .cx rfl (λhc20=>?_) (λhc20=>?_)
 ·iterate 10 refine AX ?_
  refine⟨?_,rfl⟩;unfold bbP;rw[aL hc15,bB hc15,aN hc20];rfl
 iterate 8 refine AX ?_
 refine .cx rfl (λhc24=>?_) (λhc24=>?_)
 ·iterate 10 refine AX ?_
  refine⟨?_,rfl⟩;unfold bbP;rw[aL hc15,bB hc15,aI,aJ];rfl
 iterate 11 refine AX ?_
 refine⟨?_,rfl⟩;unfold bbP;rw[aL hc15,bB hc15,aI,aI];rfl
theorem ajJ(a:Nat)(ha:a<18446744073709551616):Fn 40 [.int .u64 (a:Int)] (.int .i64 (alX a)):=by
 intro H;refine .of_body func40 rfl ntmps40 results40 rfl ?_;iterate 8 refine AX ?_
 refine .cl rfl call105 (.cons (tm rfl) (.cons (zR 0) .nil)) (ayT a 0 ha aC _) ?_;iterate 15 refine AX ?_
 exact⟨rfl,rfl⟩
theorem beX(a:Nat)(ha:a<18446744073709551616):Fn 194 [.int .u64 (a:Int)] (.tuple [spA (aeK a) (aqZ a) (aqY a) (apN a),.bool (decide (yG a<0))]):=by
 intro H;have hpe:=yM a;have hpm:=qD a;refine .of_body func194 rfl ntmps194 results194 rfl ?_;iterate 2 refine AX ?_
 refine .al zr208 (λb2 hb2=>?_);iterate 6 refine AX ?_
 refine .cl rfl C181 (evs1 rfl) (acM a ha _) ?_;iterate 16 refine AX ?_
 refine .cx rfl (λhc16=>?_) (λhc16=>?_)
 ·iterate 4 refine AX ?_
  refine .p rfl (zX zr208 pl208 (.cons (tm rfl) (.inl rfl) (.cons (tm rfl) (.inl rfl) .nil)) rfl) ?_;iterate 4 refine AX ?_
  refine .frz (t:=2) rfl (hb2) ?_;iterate 3 refine AX ?_
  refine⟨?_,rfl⟩;obtain⟨e1,e2,e3⟩:=cmN (a:=a) aA;rw[e1,e2,e3,bB (show¬yG a<0 by omega)];rfl
 iterate 5 refine AX ?_
 refine .p rfl (zX zr149 pl149 (.cons (tm rfl) (.inl rfl) .nil) rfl) ?_;iterate 3 refine AX ?_
 refine .cl rfl call188 (evs2 rfl rfl) ((by have h:=λH=>aoS (yF a) (cL hpm aE) ((-yG a).toNat-1) aA (-yG a-1) aA H;rw[amZ (cL hpm aC)]at h;exact h _)) ?_;iterate 3 refine AX ?_
 refine .al zr149 (λb7 hb7=>?_);have hn2_7:=Heap.ne_of (oS _ _ _) hb7;iterate 4 refine AX ?_
 refine .frz (t:=7) rfl (hb7) ?_;refine AX ?_;have hnl:yF a/2^((-yG a).toNat-1)<M1:=aU (cY _ _) (cL hpm aC);have hnl2:yF a/2^((-yG a).toNat-1)<18446744073709551616:=hnl;obtain⟨e1,e2,e3⟩:=ccM (a:=a) aA rfl;rw[amZ hnl];iterate 2 refine AX ?_
 refine .p rfl (zA U149 rfl Z22 (tm rfl)) ?_;iterate 4 refine AM ?_
 refine .p rfl (zA U149 rfl Z22 (tm rfl)) ?_;iterate 2 refine AM ?_
 refine .p rfl (zX zr208 pl208 (.cons (tm rfl) (.inl rfl) (.cons (tm rfl) (.inl rfl) (.cons (tm rfl) (.inl rfl) (.cons (tm rfl) (.inl rfl) .nil)))) rfl) ?_;iterate 4 refine AX ?_
 refine .frz (t:=2) rfl (hb2) ?_;iterate 2 refine AX ?_
 refine⟨?_,rfl⟩;rw[←e1,←e2,←e3,aY (show yG a<0 by omega)];rfl
theorem bpO(neg half rest:Bool)(n:Nat):Fn 196 [spA neg half rest n] (.bool (half||rest)):=by
 intro H;refine .of_body func196 rfl ntmps196 results196 rfl ?_;iterate 8 refine AX ?_
 refine .p rfl (zA U208 rfl Z4 (tm rfl)) ?_;iterate 2 refine AX ?_
 refine zC (t:=5) rfl (λhg5=>?_) (λhg5=>?_)
 ·iterate 8 refine AX ?_
  refine⟨?_,rfl⟩;rw[show half=_ from hg5];rfl
 refine .gp rfl rfl rfl aB (zA U208 rfl Z4 (tm rfl)) ?_;iterate 7 refine AX ?_
 refine⟨?_,rfl⟩;rw[show half=_ from hg5];rfl
theorem azN(neg half rest:Bool)(n:Nat):Fn 195 [spA neg half rest n,.int .i64 2] (.int .u64 (n:Int)):=by
 intro H;refine .of_body func195 rfl ntmps195 results195 rfl ?_;iterate 15 refine AM ?_
 iterate 4 refine AX ?_
 refine .cond_false (tm rfl) aD ?_;iterate 6 refine AX ?_
 refine .cond_false (tm rfl) aD ?_;iterate 6 refine AX ?_
 refine .cond_false (tm rfl) aD ?_;iterate 6 refine AX ?_
 refine .cond_false (tm rfl) aD ?_;iterate 6 refine AX ?_
 refine .cond_false (tm rfl) aD ?_;iterate 5 refine AX ?_
 refine .p rfl (zA U208 rfl Z22 (tm rfl)) ?_;iterate 6 refine AX ?_
 exact⟨rfl,rfl⟩
theorem bfW(a:Nat)(ha:a<18446744073709551616):Fn 135 [.int .u64 (a:Int)] (.bool (isN a)):=by
 intro H;refine .of_body func135 rfl ntmps135 results135 rfl ?_;iterate 8 refine AX ?_
 refine .cl rfl call194 (evs1 rfl) (beX a ha _) ?_;iterate 3 refine AX ?_
 refine .al zr208 (λb3 hb3=>?_);iterate 4 refine AX ?_
 refine .frz (t:=3) rfl (hb3) ?_;iterate 3 refine AX ?_
 refine .cl rfl C89 (evs1 rfl) (aaA _ aB _) ?_;iterate 2 refine AX ?_
 refine zC (t:=13) rfl (λhg13=>?_) (λhg13=>?_)
 ·have hh13:=hg13;try simp only[aO]at hh13
  refine AX ?_;refine .gs rfl rfl rfl aB (zB call196 (evs1 rfl) (bpO _ _ _ _ _)) ?_;rintro _ _ ⟨rfl,hH⟩;obtain rfl:=hH.symm;rw[coD];iterate 7 refine AX ?_
  refine⟨?_,rfl⟩;unfold isN;rw[aY (show zK a<3 by omega),Bool.not_not];rfl
 have hh13:=hg13;try simp only[aM,cO]at hh13
 iterate 9 refine AX ?_
 refine⟨?_,rfl⟩;unfold isN;rw[bB (show¬zK a<3 by omega)];rfl
theorem bfV(a:Nat)(ha:a<18446744073709551616)(H:Heap):ACall prog 134 [.int .u64 (a:Int),.int .i64 2] H (λy H'=>y= .tuple [.int .i64 (toN a).1,.int .i64 (toN a).2]∧H'=H):=by
 have hpe:=yM a;have hpm:=qD a;have htl:toM a<18446744073709551616∨11<yG a:=by
  rcases Int.lt_or_le 11 (yG a)with h|h
  ·exact .inr h
  left;unfold toM;split
  ·exact aU (cY _ _) aA
  exact cfP hpm h
 refine ACall.of_body func134 rfl ntmps134 results134 rfl ?_;iterate 19 refine AX ?_
 refine AWP.cond_false (tm rfl) aD ?_;iterate 3 refine AX ?_
 refine .cl rfl C89 (evs1 rfl) (aaA _ aB _) ?_;iterate 4 refine AX ?_
 refine AWP.cond (tm rfl) (λhc18=>?_) (λhc18=>?_)
 ·try simp only[aO]at hc18
  iterate 9 refine AX ?_
  refine Ret.go (.cons (.tmp _ _ rfl) (.cons (.tmp _ _ rfl) .nil)) _ (hRa _) ?_;refine⟨?_,rfl⟩;rw[chL aA];rfl
 try simp only[aM,dO]at hc18
 have h3:¬3≤zK a:=by omega
 iterate 6 refine AX ?_
 refine .cl rfl call194 (evs1 rfl) (beX a ha _) ?_;iterate 3 refine AX ?_
 refine .al zr208 (λb6 hb6=>?_);refine .e0 (zN Z208 (tm rfl) (tm rfl) rfl rfl (.inr ⟨_,rfl⟩) (oS _ _ _) (lB rfl)) ?_;try first|rw[sS]|rw[sU aB]
 iterate 3 refine AX ?_
 refine AWP.meet (λenv H2=>(¬(0≤yG a∧11<yG a))∧env=[(4,.int .i64 0),(5,.int .i64 0),(6,.ptr (some ⟨b6,0,none⟩))]∧H2=H.set b6 (.box 208 [.bool (aeK a),.bool (aqZ a),.bool (aqY a),.int .u64 ((toM a:Nat):Int)])) ?_ ?_
 ·iterate 5 refine AX ?_
  refine AWP.cond (tm rfl) (λhc27=>?_) (λhc27=>?_)
  ·try simp only[aO]at hc27
   have he0:yG a<0:=by simpa using hc27
   refine AX ?_;refine .e rfl (abX isAgg208 Z208 (tm rfl) (oS _ _ _) (lB rfl)) ?_;refine AX ?_;refine .cl rfl call195 (evs2 rfl rfl) (azN _ _ _ _ _) (.p rfl (zD U208 rfl Z22 (tm rfl)) (.e0 (zN Z22 (tm rfl) (tm rfl) rfl rfl (.inl rfl) (oS _ _ _) (lB rfl)) ?_));try first|rw[sS]|rw[sU aB]
   iterate 2 refine AX ?_
   refine Meets.mk (M:=λenv H2=>(¬(0≤yG a∧11<yG a))∧env=[(4,.int .i64 0),(5,.int .i64 0),(6,.ptr (some ⟨b6,0,none⟩))]∧H2=H.set b6 (.box 208 [.bool (aeK a),.bool (aqZ a),.bool (aqY a),.int .u64 ((toM a:Nat):Int)])) ⟨by omega,rfl,by rw[show toM a=apN a by unfold toM apN;rw[aN he0,aN he0]];rfl⟩ sX (hRa _)
  try simp only[aM,cO]at hc27
  have he0:¬yG a<0:=by simpa using hc27
  iterate 3 refine AX ?_
  refine .cl rfl C181 (evs1 rfl) (acM a ha _) ?_;iterate 16 refine AX ?_
  refine AWP.cond (tm rfl) (λhc39=>?_) (λhc39=>?_)
  ·try simp only[aO]at hc39
   iterate 6 refine AX ?_
   refine AWP.dropb (hb6) ?_;iterate 3 refine AX ?_
   refine Ret.go (.cons (.tmp _ _ rfl) (.cons (.tmp _ _ rfl) .nil)) _ (hRa _) ?_;refine⟨?_,rfl⟩;rw[blQ h3];rw[aJ];rfl
  try simp only[aM,cO]at hc39
  have he11:=cfP (e:=yG a) hpm aA;iterate 5 refine AX ?_
  refine .p rfl (.as (b:=.int .u64 ((toM a:Nat):Int)) (by congr 2;exact(aL he0).symm) (qB (q:=(yG a).toNat) (tm rfl) (by rw[show(((yG a).toNat:Nat):Int)=yG a by omega];exact .tmp _ _ rfl) aA he11)) ?_;refine .p rfl (zD U208 rfl Z22 (tm rfl)) (.e0 (zN Z22 (tm rfl) (tm rfl) rfl rfl (.inl rfl) (oS _ _ _) (lB rfl)) ?_);try first|rw[sS]|rw[sU aB]
  iterate 2 refine AX ?_
  refine Meets.mk (M:=λenv H2=>(¬(0≤yG a∧11<yG a))∧env=[(4,.int .i64 0),(5,.int .i64 0),(6,.ptr (some ⟨b6,0,none⟩))]∧H2=H.set b6 (.box 208 [.bool (aeK a),.bool (aqZ a),.bool (aqY a),.int .u64 ((toM a:Nat):Int)])) ⟨by omega,rfl,rfl⟩ sX (hRa _)
 rintro _ _ ⟨hm11,rfl,rfl⟩;have htl2:toM a<18446744073709551616:=by omega
 iterate 2 refine AX ?_
 refine AWP.seqTo 44 (.bool (aeK a&&decide (toM a≤9223372036854775808))) [4,5,6] ?_ ?_
 ·refine AX ?_;refine .p rfl (zD U208 rfl Z4 (tm rfl)) (.e rfl (yC G4 (tm rfl) (oS _ _ _) rfl) ?_);refine AX ?_;refine zC (t:=47) rfl (λhg47=>?_) (λhg47=>?_)
  ·have hh47:=hg47;try simp only[aK]at hh47
   refine .gp rfl rfl rfl aB (zD U208 rfl Z22 (tm rfl)) (.gs rfl rfl rfl aB (yC G22 (tm rfl) (oS _ _ _) rfl) ?_);rintro _ _ ⟨rfl,hH⟩;obtain rfl:=hH.symm;iterate 4 refine AM ?_
   exact⟨rfl,zL rfl (by(rw[show aeK a=_ from hg47,Bool.true_and];exact aT.2 aA)) sX,rfl⟩
  have hh47:=hg47;try simp only[aK]at hh47
  iterate 4 refine AX ?_
  refine .as rfl rfl (.nil ?_);exact⟨rfl,zL rfl (by(rw[show aeK a=_ from hg47,Bool.false_and])) sX,rfl⟩
 refine AWP.sub [(44,_),(4,_),(5,_),(6,_)] sX ?_;refine AWP.cond (tm rfl) (λhc44=>?_) (λhc44=>?_)
 ·try simp only[aK]at hc44
  simp only[bL,aO]at hc44;refine .seq (.region (.p rfl (zD U208 rfl Z22 (tm rfl)) (.e rfl (yC G22 (tm rfl) (oS _ _ _) rfl) (.p rfl (akL (tm rfl)) (.p rfl (afY U22 U3 (tm rfl)) (.as rfl rfl (.p rfl (zT zH) (.nil ?_))))))));refine Next.go ?_;refine AWP.dropb (hb6) ?_;refine .ret ?_;refine Block.rt ?_;refine Next.rt ?_;refine Ret.go (.cons (.tmp _ _ rfl) (.cons (.tmp _ _ rfl) .nil)) _ (hRa _) ?_;refine⟨?_,rfl⟩;rw[blQ h3];rw[aI,aN hc44.1,aN hc44.2,←bnF hc44.2];rfl
 try simp only[aK]at hc44
 simp only[bX,aM]at hc44;refine AWP.seqTo 56 (.bool (!aeK a&&decide (toM a<9223372036854775808))) [4,5,6] ?_ ?_
 ·refine .region (.p rfl (zD U208 rfl Z4 (tm rfl)) (.e rfl (yC G4 (tm rfl) (oS _ _ _) rfl) ?_));iterate 2 refine AX ?_
  refine zC (t:=60) rfl (λhg60=>?_) (λhg60=>?_)
  ·have hh60:=hg60;try simp only[dX]at hh60
   refine .gp rfl rfl rfl aB (zD U208 rfl Z22 (tm rfl)) (.gs rfl rfl rfl aB (yC G22 (tm rfl) (oS _ _ _) rfl) ?_);rintro _ _ ⟨rfl,hH⟩;obtain rfl:=hH.symm;iterate 4 refine AM ?_
   exact⟨rfl,zL rfl (by(rw[show(!aeK a)=_ from hg60,Bool.true_and];exact aT.2 aA)) sX,rfl⟩
  have hh60:=hg60;try simp only[dF]at hh60
  iterate 6 refine AX ?_
  exact⟨rfl,zL rfl (by(rw[show(!aeK a)=_ from hg60,Bool.false_and])) sX,rfl⟩
 refine AWP.sub [(56,_),(4,_),(5,_),(6,_)] sX ?_;refine AWP.cond (tm rfl) (λhc56=>?_) (λhc56=>?_)
 ·try simp only[aK]at hc56
  simp only[bL,dX,aO]at hc56;iterate 2 refine AX ?_
  refine .p rfl (zD U208 rfl Z22 (tm rfl)) (.e rfl (yC G22 (tm rfl) (oS _ _ _) rfl) ?_);iterate 5 refine AX ?_
  refine AWP.dropb (hb6) ?_;iterate 3 refine AX ?_
  refine Ret.go (.cons (.tmp _ _ rfl) (.cons (.tmp _ _ rfl) .nil)) _ (hRa _) ?_;refine⟨?_,rfl⟩;rw[blQ h3];rw[aI,aL (by rw[hc56.1];decide),aN hc56.2];rfl
 try simp only[aK]at hc56
 simp only[bX,dF,aM]at hc56;iterate 9 refine AX ?_
 refine AWP.dropb (hb6) ?_;refine AX ?_;refine Ret.go (.cons (.tmp _ _ rfl) (.cons (.tmp _ _ rfl) .nil)) _ (hRa _) ?_;refine⟨?_,rfl⟩;rw[blQ h3];rw[aI];cases hnb:aeK a<;>first|(rw[aL aC,aL (by simp[hnb]at hc56;omega)];rfl)|(rw[aN rfl,aL (by simp[hnb]at hc44;omega)];rfl)
end
end Go.Proofs.YtmmgbnolccpjoaaGreatDoor
