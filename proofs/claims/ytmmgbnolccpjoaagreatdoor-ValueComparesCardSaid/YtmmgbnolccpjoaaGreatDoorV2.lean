import Derived.Test.YtmmgbnolccpjoaaGreatDoorV1
import Derived.Test.YtmmgbnolccpjoaaGreatDoorQ3
set_option maxHeartbeats 1000000
namespace Go.Proofs.YtmmgbnolccpjoaaGreatDoor
open Go.Proofs.Tryz
open Go Go.RowKit
variable{na nb neg:Bool}{j n r x:Nat}{E:Int}
def clD(p q:Nat):Int:=(([[4,0,3,1],[0,0,3,1],[2,2,4,1],[1,1,1,1]]:List (List Int)).getD p []).getD q 0
def bpM(na nb:Bool)(x y:Nat)(e:Int):Nat:=
 if na=nb then zV na (x+y) e false else if x=y then 0 else if y<x then zV na (x-y) e false else zV nb (y-x) e false
def btN(na:Bool)(ma:Nat)(ea:Int)(nb:Bool)(mb:Nat)(eb:Int):Nat:=
 let up:=(min (ea-eb) 64).toNat
 let x:=ma*2^up
 let e:=ea-up
 let j:=(e-eb).toNat
 let y:=mb/2^j
 let more:=decide (mb%2^j≠0)
 if na=nb then zV na (x+y) e more
 else
  let z:=if more=true then y+1 else y
  if x<z then zV nb (z-x) e false else if x-z=0∧more=false then 0 else zV na (x-z) e more
theorem buK(na nb:Bool)(x y:Nat)(e:Int):bpM na nb x y e=bpM nb na y x e:=by
 unfold bpM;by_cases h:na=nb
 ·subst h;rw[aN rfl,aN rfl,dS]
 rw[aL h,aL (show¬nb=na from λq=>h q.symm)];by_cases h2:x=y
 ·rw[aN h2,aN h2.symm]
 rw[aL h2,aL (show¬y=x from λq=>h2 q.symm)];by_cases h3:y<x
 ·rw[aN h3,aI]
 rw[aL h3,aJ]
theorem boI(x y j:Nat):(x*2^j+y)/2^j=x+y/2^j:=by
 rw[dS,Nat.add_mul_div_right _ _ (bO aC),dS]
theorem bnK(x y j:Nat):(x*2^j+y)%2^j=y%2^j:=by
 rw[dS,Nat.add_mul_mod_self_right]
theorem chT{ma mb:Nat}{ea eb:Int}(h:eb≤ea)(hm:eb<ea→4503599627370496≤ma)(hb:mb<9007199254740992)(he: -10000≤eb)(he2:ea≤2000):
  btN na ma ea nb mb eb=bpM na nb (ma*2^(ea-eb).toNat) mb eb:=by
 rcases Int.lt_or_le 64 (ea-eb)with hd|hd
 ·obtain⟨j,hj⟩:∃j:Nat,ea-eb=64+(j:Int):=⟨(ea-eb-64).toNat,by omega⟩;have hj0:0<j:=by omega
  have hup:(min (ea-eb) 64).toNat=64:=by omega
  have hx:ma*2^(ea-eb).toNat=ma*2^64*2^j:=by rw[hj,show(64+(j:Int)).toNat=64+j by omega,bI,bH]
  have hma:=hm aA;have hbig:83076749736557242056487941267521536≤ma*2^64:=by
   have:=bC (2^64) hma;exact aZ aC this
  have hjj:(ea-((64:Nat):Int)-eb).toNat=j:=by omega
  have hej:ea-((64:Nat):Int)=eb+j:=by omega
  have h2j:0<2^j:=bO aC;have hy:mb/2^j≤mb:=cY _ _;have hdm:=cH mb (2^j);have hml:=bU mb h2j;unfold btN;simp only[hup,hjj];rw[hej,hx];generalize hX:ma*2^64=X at *;generalize hY:mb/2^j=Y at *;generalize hR:mb%2^j=R at *;generalize hP:2^j=P at *;unfold bpM;by_cases hs:na=nb
  ·rw[aN hs,aN hs];have e1:(X*P+mb)/P=X+Y:=by rw[←hP,boI,hP,hY]
   have e2:(X*P+mb)%P=R:=by rw[←hP,bnK,hP,hR]
   have hb1:55≤zY ((X*P+mb)/2^j):=by
    rw[hP,e1];have:54<zY (X+Y):=qQ.2 (aZ aC (aZ hbig (fX _ _)));omega
   rw[aeZ (j:=j) hb1 he aA,hP,e1,e2,Bool.false_or]
  rw[aL hs,aL hs];have hXP:X≤X*P:=eR _ h2j;have hlt:mb<X*P:=bM hb (aZ (aZ aC hbig) hXP);rw[aL (show¬X*P=mb by omega),aN hlt];have hYX:Y+1≤X:=by
   have:Y<9007199254740992:=aU hy hb;exact aZ (by omega:Y+1≤9007199254740992) (aZ aC hbig)
  by_cases hr:R=0
  ·have hz:decide (R≠0)=false:=by rw[hr];rfl
   have hYX2:¬X<Y:=by omega
   have hYX3:¬(X-Y=0∧false=false):=λq=>by have:=q.1;omega
   rw[hz,aL (show¬(false=true) by decide),aL hYX2,aL hYX3];have e0:X*P-mb=(X-Y)*P:=by rw[Nat.sub_mul,←hdm,hr,cB,bK P Y]
   have e1:(X*P-mb)/P=X-Y:=by rw[e0,fO _ h2j]
   have e2:(X*P-mb)%P=0:=by rw[e0,Nat.mul_mod_left]
   have hb1:55≤zY ((X*P-mb)/2^j):=by
    rw[hP,e1];have:54<zY (X-Y):=qQ.2 (by
      have h9:Y<9007199254740992:=aU hy hb;have h8:(2:Nat)^54+9007199254740992≤X:=aZ aC hbig;omega)
    omega
   rw[aeZ (j:=j) hb1 he aA,hP,e1,e2];rfl
  have hz:decide (R≠0)=true:=aY hr;have hYX2:¬X<Y+1:=by omega
  rw[hz,aN (show true=true from rfl),aL hYX2,aL (show¬(X-(Y+1)=0∧true=false)from λq=>nomatch q.2)];have e0:X*P-mb=(X-(Y+1))*P+(P-R):=by
   have h1:X*P=(X-(Y+1))*P+(Y+1)*P:=by rw[←bT,Nat.sub_add_cancel hYX]
   rw[h1,←hdm,bT,cK,bK P Y];omega
  have e1:(X*P-mb)/P=X-(Y+1):=by
   rw[e0,←hP,boI,hP,bW aA,cB]
  have e2:(X*P-mb)%P≠0:=by
   rw[e0,←hP,bnK,hP,bE aA];omega
  have hb1:55≤zY ((X*P-mb)/2^j):=by
   rw[hP,e1];have:54<zY (X-(Y+1)):=qQ.2 (by
     have h9:Y<9007199254740992:=aU hy hb;have h8:(2:Nat)^54+9007199254740993≤X:=aZ aC hbig;omega)
   omega
  rw[aeZ (j:=j) hb1 he aA,hP,e1,aY e2];rfl
 have hup:(min (ea-eb) 64).toNat=(ea-eb).toNat:=by omega
 have hee:ea-(((ea-eb).toNat:Nat):Int)=eb:=by omega
 unfold btN;simp only[hup,hee];rw[show(eb-eb).toNat=0 by omega,dI,gC,Nat.mod_one];unfold bpM;generalize ma*2^(ea-eb).toNat=X;simp only[show decide (0≠(0:Nat))=false from rfl,eT,if_false];by_cases hs:na=nb
 ·rw[aN hs,aN hs]
 rw[aL hs,aL hs];by_cases h2:X=mb
 ·rw[aN h2,aI,aN ⟨by omega,trivial⟩]
 rw[aL h2];by_cases h3:mb<X
 ·rw[aN h3,aI,aL (λq=>by omega)]
 rw[aL h3,aJ]
theorem bpL{y:Nat}{e:Int}(he: -10000≤e)(he2:e+j≤2000):bpM na nb (x*2^j) (y*2^j) e=bpM na nb x y (e+j):=by
 have hp:0<2^j:=bO aC;unfold bpM;by_cases hs:na=nb
 ·rw[aN hs,aN hs,←bT,acF he he2]
 rw[aL hs,aL hs];by_cases h2:x=y
 ·rw[aN h2,aN (by rw[h2])]
 rw[aL h2,aL (λq=>h2 (Nat.eq_of_mul_eq_mul_right hp q))];by_cases h3:y<x
 ·rw[aN h3,aN (eD h3 hp),←Nat.sub_mul,acF he he2]
 rw[aL h3,aL (by have:=bC (2^j) (Nat.le_of_not_lt h3);omega),←Nat.sub_mul,acF he he2]
def clH(neg:Bool)(a b k:Nat)(E:Int):Nat:=zV neg (a*2^k/b) (E-k) (decide (a*2^k%b≠0))
theorem ciJ{a b k:Nat}(hb:0<b)(h:55≤zY (a*2^k/b))(hE:E≤2000)(hk: -9000≤E-k):clH neg a b (k+1) E=clH neg a b k E:=by
 have e1:a*2^(k+1)/b/2^1=a*2^k/b:=by
  rw[gD,bY,bQ,←bH,eP _ _ aC]
 unfold clH;rw[aeZ (j:=1) (by rw[e1];exact h) aA aA,e1,show E-((k+1:Nat):Int)+((1:Nat):Int)=E-k by omega];congr 1;have hd:=cH (a*2^k) b;have hr:=bU (a*2^k) hb;have e2:a*2^(k+1)=b*(2*(a*2^k/b))+2*(a*2^k%b):=by
  rw[bQ,←bH,←hd];generalize a*2^k/b=q;generalize hr2:(b*q+a*2^k%b)%b=r at *;rw[fJ,Nat.mod_mod]at hr2;rw[←hr2,fK hb,bW hr,cB,bT,bH,bK q 2,bK 2 (a*2^k%b)]
 generalize hq:a*2^k/b=q at *;generalize hrr:a*2^k%b=r at *;rw[e2];rcases cG (2*r) b with hc|hc
 ·rw[fJ,bE hc,fK hb,bW hc,cB,gD,Nat.mul_mod_right];by_cases hr0:r=0
  ·simp[hr0]
  simp[hr0];omega
 have e3:2*r=b*1+(2*r-b):=by omega
 have hc2:2*r-b<b:=by omega
 rw[e3,←eG,←cA,fJ,bE hc2,fK hb,bW hc2,cB,gD];have hr0:r≠0:=by omega
 have:(2*q+1)%2=1:=by omega
 simp[hr0,this]
theorem bvY{a b k k2:Nat}(hb:0<b)(h:55≤zY (a*2^k/b))(hE:E≤2000)(hk:k≤k2)(hk2: -9000≤E-k2):clH neg a b k2 E=clH neg a b k E:=by
 induction k2 with
 |zero=>rw[show k=0 by omega]
 |succ m ih=>
  rcases cG m k with hm|hm
  ·rw[show m+1=k by omega]
  rw[ciJ hb ?_ hE aA,ih hm aA];refine aZ h (agU (Nat.div_le_div_right (bV _ (aW aC hm))))
theorem cmE{m i:Nat}(hm:4503599627370496≤m*2^i)(hn:0<n)(hn2:n*2^j<9007199254740992)(hi:i≤52)(hj:j≤52)(hE: -3000≤E)(hE2:E≤1900):
  zV neg (m*2^i*2^64/(n*2^j)) (E-i+j-64) (decide (m*2^i*2^64%(n*2^j)≠0))=zV neg (m*2^128/n) (E-128) (decide (m*2^128%n≠0)):=by
 have hp:0<2^j:=bO aC;have hnj:0<n*2^j:=fP hn hp;have hq:55≤zY (m*2^(64+i)/(n*2^j)):=by
  have h1:2^54≤m*2^(64+i)/(n*2^j):=by
   rw[dJ hnj];have h2:(2:Nat)^54*(n*2^j)≤2^54*9007199254740992:=bV _ (cT hn2);have h3:(4503599627370496:Nat)*2^64≤m*2^i*2^64:=bC _ hm;have h4:m*2^(64+i)=m*2^i*2^64:=by rw[bH,←bI,dS]
   rw[h4];exact aZ h2 (aZ aC h3)
  have:=qQ.2 h1;omega
 have h:=bvY (neg:=neg) (a:=m) (b:=n*2^j) (k:=64+i) (k2:=128+j) (E:=E+j) hnj hq aA aA aA;unfold clH at h;have e1:m*2^(64+i)=m*2^i*2^64:=by rw[bH,←bI,dS]
 have e2:m*2^(128+j)=m*2^128*2^j:=by rw[bI,bH]
 have e3:m*2^128*2^j/(n*2^j)=m*2^128/n:=eP _ _ hp;have e4:m*2^128*2^j%(n*2^j)=m*2^128%n*2^j:=fL _ _ _;have e5:decide (m*2^128%n*2^j≠0)=decide (m*2^128%n≠0):=aT.2 ⟨λq r=>q (by rw[r,dV]),λq r=>q (by
   rcases Nat.mul_eq_zero.1 r with r|r
   ·exact r
   omega)⟩
 rw[e1,e2,e3,e4,e5,show E+(j:Int)-((128+j:Nat):Int)=E-128 by omega,show E+(j:Int)-((64+i:Nat):Int)=E-i+j-64 by omega]at h;exact h.symm
def arG(n r:Nat):Prop:=r*r≤n∧n<(r+1)*(r+1)
theorem cbR{R t:Nat}(h:arG n r)(hR:arG (n*4^t) R):R/2^t=r∧((R%2^t≠0∨R*R<n*4^t)↔r*r<n):=by
 have hp:0<2^t:=bO aC;have h4:4^t=2^t*2^t:=by rw[←Nat.mul_pow]
 rw[h4]at hR ⊢;generalize 2^t=P at *;obtain⟨h1,h2⟩:=h;obtain⟨h3,h5⟩:=hR;have hlo:r*P≤R:=by
  refine Nat.le_of_not_lt λq=>?_;have q1:R+1≤r*P:=q;have q2:=cS q1 q1;have q3:r*P*(r*P)=r*r*(P*P):=by rw[gH]
  have q4:=bC (P*P) h1;omega
 have hhi:R<(r+1)*P:=by
  refine Nat.lt_of_not_le λq=>?_;have q2:=cS q q;have q3:(r+1)*P*((r+1)*P)=(r+1)*(r+1)*(P*P):=by rw[gH]
  have q4:n*(P*P)<(r+1)*(r+1)*(P*P):=eD h2 (fP hp hp);omega
 have hdiv:R/P=r:=by
  rw[Nat.div_eq_iff hp];rw[bT,cK]at hhi;exact⟨by omega,by omega⟩
 refine⟨hdiv,?_⟩;have hdm:=cH R P;rw[hdiv]at hdm;constructor
 ·rintro(q|q)
  ·refine Nat.lt_of_le_of_ne h1 λhe=>?_;have q1:r*P+1≤R:=by rw[bK];omega
   have q2:=cS q1 q1;have q3:r*P*(r*P)=r*r*(P*P):=by rw[gH]
   have q4:(r*P+1)*(r*P+1)=r*P*(r*P)+2*(r*P)+1:=by rw[bT,cA,fG,cK];omega
   rw[he]at q3;omega
  refine Nat.lt_of_le_of_ne h1 λhe=>?_;have q1:=cS hlo hlo;have q3:r*P*(r*P)=r*r*(P*P):=by rw[gH]
  rw[he]at q3;omega
 intro q;by_cases hm:R%P=0
 ·right
  rw[hm,cB,bK]at hdm;rw[←hdm,gH];exact eD q (fP hp hp)
 exact .inl hm
theorem bpU{R t:Nat}(h:arG n r)(hR:arG (n*4^t) R)(hb:55≤zY r)(he: -9000≤E-t)(he2:E≤2000):
  zV false R (E-t) (decide (R*R<n*4^t))=zV false r E (decide (r*r<n)):=by
 obtain⟨h1,h2⟩:=cbR h hR;rw[aeZ (j:=t) (by rw[h1];exact hb) aA aA,h1,show E-(t:Int)+(t:Int)=E by omega];congr 1;by_cases hc:r*r<n
 ·rw[aY hc];rcases h2.2 hc with q|q
  ·rw[aY q,Bool.or_true]
  rw[aY q,Bool.true_or]
 have q1:¬R%2^t≠0:=λq=>hc (h2.1 (.inl q));have q2:¬R*R<n*4^t:=λq=>hc (h2.1 (.inr q));rw[bB hc,bB q1,bB q2];rfl
def bcN:Nat:=9221120237041090560
def clL(a b:Nat):Int:=clD (ajR (zK a)) (ajR (zK b))
def arK(a b:Nat):Nat:=if yG a<yG b then btN (aeK b) (yF b) (yG b) (aeK a) (yF a) (yG a)else btN (aeK a) (yF a) (yG a) (aeK b) (yF b) (yG b)
def ajI(a b:Nat):Nat:=
 if clL a b=1 then bcN else if clL a b=2 then a else if clL a b=3 then b
 else if clL a b=4 then(if a=b then a else if zK a=3 then bcN else 0)
 else arK a b
def aaM(x:Nat):Nat:=yF x*2^(53-zY (yF x))
def afL(x:Nat):Int:=yG x-((53-zY (yF x):Nat):Int)
def aaT(a b:Nat):Prop:=zK a=4∨zK b=4∨(zK a=3∧zK b=3)∨(zK a=0∧zK b=0)
instance (a b:Nat):Decidable (aaT a b):=by unfold aaT;exact inferInstance
def apR(a b:Nat):Nat:=
 if aaT a b then bcN
 else if zK a=3∨zK b=0 then qG (aeH a b)+amY
 else if zK a=0∨zK b=3 then qG (aeH a b)
 else zV (aeH a b) (aaM a*2^64/aaM b) (afL a-afL b-64) (decide (aaM a*2^64%aaM b≠0))
def aaI(n:Nat):Nat→Nat→Nat
 |0,r=>r
 |k+1,r=>if(r+2^k)*(r+2^k)≤n then aaI n k (r+2^k)else aaI n k r
theorem anG{n:Nat}:∀(k r:Nat),r*r≤n→n<(r+2^k)*(r+2^k)→arG n (aaI n k r)
 |0,r,h1,h2=>⟨h1,by rw[dI]at h2;exact h2⟩
 |k+1,r,h1,h2=>by
  have e:2^(k+1)=2^k+2^k:=by rw[bQ];omega
  rw[e]at h2;rw[aaI];split
  ·rename_i h
   exact anG k _ h (by rw[eG];exact h2)
  rename_i h
  exact anG k r h1 aA
theorem bmF(h:n<2^128):arG n (aaI n 64 0):=anG 64 0 (Nat.zero_le _) (by rw[bZ,←bI];exact h)
def afO(x:Nat):Nat:=if(afL x-74)%2≠0 then 73 else 74
def adA(x:Nat):Nat:=aaM x*2^afO x
def aoG(a:Nat):Nat:=
 if zK a=4∨9223372036854775808<a then bcN
 else if zK a=0∨zK a=3 then a
 else zV false (aaI (adA a) 64 0) ((afL a-afO a)/2) (decide (aaI (adA a) 64 0*aaI (adA a) 64 0≠adA a))
def cgI:Nat:=4607182418800017408
def apK(a u L:Nat):Nat→Nat
 |0=>cgI
 |i+1=>if u/2^(L-1-i)%2=1 then afD (afD (apK a u L i) (apK a u L i)) a else afD (apK a u L i) (apK a u L i)
def bfQ(a:Nat)(n:Int):Nat:=
 if zK a=4 then bcN else if n<0 then apR cgI (apK a n.natAbs (zY n.natAbs) (zY n.natAbs))else apK a n.natAbs (zY n.natAbs) (zY n.natAbs)
def anW(x:Nat):Int:=if 9223372036854775808≤x then-(((if zK x=4 then bcN else x%9223372036854775808:Nat):Nat):Int)else(x:Int)
def bbP(a b:Nat):Int:=if zK a=4∨zK b=4 then 0 else if anW a<anW b then-1 else if anW b<anW a then 1 else 0
def alX(x:Nat):Int:=bbP x 0
def ajS(x:Nat):Nat:=if zK x=4 then bcN else if 9223372036854775808≤x then x-9223372036854775808 else x+9223372036854775808
def toN(x:Nat):Int×Int:=
 if 3≤zK x then(0,11)
 else
  let n:=if yG x<0 then yF x/2^(-yG x).toNat else yF x*2^(yG x).toNat
  if 0≤yG x∧11<yG x then(0,6)
  else if aeK x=true then(if n≤9223372036854775808 then(-(n:Int),0)else(0,6))else(if n<9223372036854775808 then((n:Int),0)else(0,6))
def isN(x:Nat):Bool:=decide (zK x<3)&&(decide (0≤yG x)||decide (yF x%2^(-yG x).toNat=0))
section
open Go Go.RowKit
set_option maxRecDepth 100000
theorem div2{a b:Nat}(hb:0<b)(hb2:b≤M1):w2 (a/M1/b) ((a/M1%b*18446744073709551616+a%M1)/b)=u2 (a/b)∧(a/M1%b*18446744073709551616+a%M1)%b=a%b:=by
 obtain⟨e1,e2⟩:=boH (B:=M1) (Y:=b) (a:=a/M1) (u0:=a%M1) hb;have e3:a/M1*M1+a%M1=a:=by rw[bK];exact cH a M1
 rw[e3]at e1 e2;have hlt:(a/M1%b*M1+a%M1)/b<M1:=by
  rw[bR hb];have h1:=bC M1 (Nat.succ_le_of_lt (bU (a/M1) hb));have h2:=agR a;rw[Nat.succ_mul,bK b]at h1;omega
 have e4:M1=18446744073709551616:=rfl;rw[←e4,e2,e1];refine⟨?_,rfl⟩;unfold u2;generalize(a/M1%b*M1+a%M1)/b=z at *;rw[dS (_*M1),Nat.add_mul_div_right _ _ aC,Nat.add_mul_mod_self_right,bW hlt,bE hlt,bZ]
theorem bpD(a b:Nat)(ha:a<M2)(hb:0<b)(hb2:b<18446744073709551616):Fn 121 [u2 a,.int .u64 (b:Int)] (.tuple [u2 (a/b),.int .u64 ((a%b:Nat):Int),.int .i64 0]):=by
 intro H;have ha1:=brY ha;have ha2:=agR a;obtain⟨e1,e2⟩:=div2 (a:=a) hb (cT hb2);refine .of_body func121 rfl ntmps121 results121 rfl ?_;iterate 3 refine AX ?_
 refine .al zr149 (λb4 hb4=>?_);refine AM ?_;iterate 7 refine AX ?_
 iterate 3 refine AM ?_
 refine .cond_false (tm rfl) (by exact bB aA) ?_;iterate 3 refine AX ?_
 refine .draw [(0,true),(1,true),(2,true),(3,true),(4,true),(5,true),(6,true),(7,true),(8,true),(9,true)] rfl aE ?_;refine .p rfl rfl (zA U149 rfl Z22 (tm rfl)) ?_;iterate 3 refine AX ?_
 refine .p rfl rfl (zA U149 rfl Z22 (tm rfl)) ?_;iterate 2 refine AX ?_
 refine .p rfl rfl (aiJ (tm rfl) (tm rfl) aB) ?_;iterate 7 refine AX ?_
 refine .p rfl (zA U149 rfl Z22 (tm rfl)) ?_;iterate 2 refine AX ?_
 refine .cl rfl call183 (evs3 rfl rfl rfl) (blI (a/M1%b) (a%M1) b (bU _ hb) ha2 hb2 _) ?_;iterate 11 refine AX ?_
 refine .p rfl (zX zr149 pl149 (.cons (tm rfl) (.inl rfl) (.cons (tm rfl) (.inl rfl) .nil)) rfl) ?_;iterate 6 refine AX ?_
 refine .frz (t:=4) rfl (hb4) ?_;iterate 2 refine AX ?_
 refine⟨?_,rfl⟩;rw[←e1,←e2];rfl
theorem ciG{v i:Nat}(h:(r+2^i)*(r+2^i)≤v):aaI v (i+1) r=aaI v i (r+2^i):=by rw[aaI,aN h]
theorem ciF{v i:Nat}(h:¬(r+2^i)*(r+2^i)≤v):aaI v (i+1) r=aaI v i r:=by rw[aaI,aL h]
theorem cdL(i:Nat):2^(i+1)/2=2^i:=by rw[bQ,fO _ aC]
theorem cbQ{i:Nat}(h:r%2^(i+1)=0):r%2^i=0∧(r+2^i)%2^i=0:=by
 obtain⟨c,rfl⟩:=Nat.dvd_of_mod_eq_zero h;have e:2^(i+1)*c=2^i*(2*c):=by rw[bQ,bH]
 rw[e];exact⟨Nat.mul_mod_right _ _,by rw[fJ];exact Nat.mod_self _⟩
theorem bvL{i:Nat}(hi:i<64)(h:r%2^(i+1)=0)(hr:r<M1):r+2^i<18446744073709551616:=by
 obtain⟨c,rfl⟩:=Nat.dvd_of_mod_eq_zero h;have e:M1=2^(i+1)*2^(63-i):=by rw[agX,←bI,show i+1+(63-i)=64 by omega]
 rw[e]at hr;have h1:c<2^(63-i):=Nat.lt_of_mul_lt_mul_left hr;have h2:=bV (2^(i+1)) (Nat.succ_le_of_lt h1);rw[←e,Nat.mul_succ]at h2;have h3:2^i<2^(i+1):=eC aC (gN i);have h4:M1=18446744073709551616:=rfl;omega
theorem bjF{i:Nat}(h:i≤64):2^i/2<18446744073709551616:=by
 have:2^i≤2^64:=aW aC h;have e:(2:Nat)^64=18446744073709551616:=by decide
 omega
theorem cgZ{a b:Nat}:((if a=b then 0 else if a<b then-1 else 1:Int)≤0)↔a≤b:=by
 split
 ·omega
 split<;>omega
def bvM(v:Nat)(H:Heap):Nat→Env→Heap→Prop:=λk env H1=>∃i r:Nat,i≤64∧r%2^i=0∧r<M1∧aaI v i r=aaI v 64 0∧env=[(1,.iptr (u2 v).cells),(2,.int .u64 ((0:Nat):Int)),(3,.bool false),(4,.int .u64 (r:Int)),(5,.int .u64 ((2^i/2:Nat):Int))]∧H=H1∧k=i
theorem wMulS(x:Nat)(hx:x<18446744073709551616)(H:Heap):ACall prog 193 [.int .u64 (x:Int),.int .u64 (x:Int)] H (λz H'=>z=u2 (x*x)∧H'=H):=wMul2 x x hx hx H
theorem bhF(v:Nat)(hv:v<M2):Fn 197 [u2 v] (.tuple [.int .u64 ((aaI v 64 0:Nat):Int),.bool (decide (aaI v 64 0*aaI v 64 0=v))]):=by
 intro H;refine .of_body func197 rfl ntmps197 results197 rfl ?_;iterate 19 refine AM ?_
 refine .loopW (bvM v H) (64) ⟨64,0,aV _,Nat.zero_mod _,by decide,rfl,rfl,rfl,rfl⟩ (zI rfl (zI rfl (zI rfl (zI rfl (zI rfl yJ))))) (hRa _) ?_;rintro _ _ _ ⟨i,r,hi,hm,hr,hroot,rfl,rfl,hk⟩;have hpp:=bjF hi;iterate 7 refine AM ?_
 refine .cx rfl (λhc8=>?_) (λhc8=>?_)
 ·have hi0:i≠0:=by rintro rfl;exact absurd hc8 aC
  obtain⟨j,rfl⟩:∃j,i=j+1:=⟨i-1,by omega⟩;rw[cdL];have hor:=cmK hm;have hroom:=bvL aA hm hr;obtain⟨hm1,hm2⟩:=cbQ hm;have hpl:2^j<18446744073709551616:=by omega
  iterate 8 refine AX ?_
  refine .p rfl (abU (tm rfl) (tm rfl) (hr) (hpl)) ?_;iterate 4 refine AX ?_
  rw[hor];refine .draw [(0,true),(1,true),(3,true),(2,false),(4,false),(5,true)] rfl aE ?_;iterate 3 refine AX ?_
  refine .s rfl rfl (zB C193 (evs2 rfl rfl) (wMulS _ hroom _)) ?_;rintro _ _ ⟨rfl,hH⟩;obtain rfl:=hH.symm;refine .s rfl rfl (zB call251 (evs2 rfl rfl) (bpE ((r+2^j)*(r+2^j)) v _)) ?_;rintro _ _ ⟨rfl,hH⟩;obtain rfl:=hH.symm;iterate 3 refine AX ?_
  refine .cx rfl (λhc19=>?_) (λhc19=>?_)
  ·have hle:=cgZ.1 hc19;have hst:=ciG hle;iterate 12 refine AM ?_
   refine Round.mk ⟨j,r+2^j,by omega,hm2,hroom,by rw[←hst];exact hroot,rfl,rfl,rfl⟩ (zI rfl (zI rfl (zI rfl (zI rfl (zM rfl (by rw[gD]) yJ))))) (hRa _) aA
  have hle:¬(r+2^j)*(r+2^j)≤v:=λh=>by have:=cgZ.2 h;omega
  have hst:=ciF hle;iterate 9 refine AM ?_
  refine Round.mk ⟨j,r,by omega,hm1,hr,by rw[←hst];exact hroot,rfl,rfl,rfl⟩ (zI rfl (zI rfl (zI rfl (zI rfl (zM rfl (by rw[gD]) yJ))))) (hRa _) aA
 have hi0:i=0:=by
  rcases bJ i with h|h
  ·exact h
  have h2:2≤2^i:=aZ aC (aW aC h);omega
 subst hi0;have hr64:r<18446744073709551616:=hr;have hrr:aaI v 64 0=r:=by rw[←hroot];rfl
 iterate 6 refine AX ?_
 refine .draw [(0,true),(1,true),(2,true),(4,true),(3,false),(5,true),(6,true),(7,true)] rfl aE ?_;iterate 4 refine AX ?_
 refine .s rfl rfl (zB C193 (evs2 rfl rfl) (wMulS _ hr64 _)) ?_;rintro _ _ ⟨rfl,hH⟩;obtain rfl:=hH.symm;refine .p rfl rfl (qC eqGuardType149 (tm rfl) (tm rfl) (eq2 _ _ _ _)) ?_;iterate 6 refine AX ?_
 refine⟨?_,rfl⟩;rw[hrr];simp only[yD];congr 3;exact congrArg AV.bool (aT.2 bkK)
end
theorem chS(na:Bool)(ma:Nat)(ea:Int)(nb:Bool)(mb:Nat)(eb:Int):btN na ma ea nb mb eb<18446744073709551616:=by
 unfold btN;simp only;generalize(if decide (mb%2^_≠0)=true then _ else _:Nat)=z;split
 ·exact afA _ _ _ _
 split
 ·exact afA _ _ _ _
 split
 ·decide
 exact afA _ _ _ _
theorem ckC(a b:Nat):arK a b<18446744073709551616:=by
 unfold arK;split<;>exact chS _ _ _ _ _ _
theorem bkC{a b:Nat}(ha:a<18446744073709551616)(hb:b<18446744073709551616):ajI a b<18446744073709551616:=by
 unfold ajI;split
 ·decide
 split
 ·exact ha
 split
 ·exact hb
 split
 ·split
  ·exact ha
  split<;>decide
 exact ckC a b
theorem blX(neg:Bool):qG neg+amY<18446744073709551616∧qG neg<18446744073709551616:=by cases neg<;>decide
theorem bbN(a b:Nat):apR a b<18446744073709551616:=by
 unfold apR;split
 ·decide
 split
 ·exact(blX _).1
 split
 ·exact(blX _).2
 exact afA _ _ _ _
theorem bnY{a:Nat}(ha:a<18446744073709551616):aoG a<18446744073709551616:=by
 unfold aoG;split
 ·decide
 split
 ·exact ha
 exact afA _ _ _ _
theorem apJ(a u L:Nat):∀i,apK a u L i<18446744073709551616
 |0=>show(4607182418800017408:Nat)<18446744073709551616 by decide
 |i+1=>by
  unfold apK;split<;>exact alH _ _
theorem ckD(a:Nat)(n:Int):bfQ a n<18446744073709551616:=by
 unfold bfQ;split
 ·decide
 split
 ·exact bbN _ _
 exact apJ _ _ _ _
theorem amQ{a:Nat}(ha:a<18446744073709551616):ajS a<18446744073709551616:=by
 unfold ajS;split
 ·decide
 split<;>omega
section
open Go Go.RowKit
set_option maxRecDepth 100000
theorem cfD{p q:Nat}(hp:p<4)(hq:q<4):((([.int .i64 4,.int .i64 0,.int .i64 3,.int .i64 1,.int .i64 0,.int .i64 0,.int .i64 3,.int .i64 1,.int .i64 2,.int .i64 2,.int .i64 4,.int .i64 1,.int .i64 1,.int .i64 1,.int .i64 1,.int .i64 1]:List AV).drop (((p:Nat):Int).toNat*4)).drop (((q:Nat):Int).toNat*1))[0]?=some (.int .i64 (clD p q)):=by
 rcases(by omega:p=0∨p=1∨p=2∨p=3)with rfl|rfl|rfl|rfl<;>rcases(by omega:q=0∨q=1∨q=2∨q=3)with rfl|rfl|rfl|rfl<;>rfl
def bcY(y:Nat)(more:Bool):Nat:=if more=true then y+1 else y
def clQ(na nb:Bool)(x y:Nat)(e:Int)(more:Bool):Nat:=
 if na=nb then zV na (x+y) e more
 else if x<bcY y more then zV nb (bcY y more-x) e false else if x-bcY y more=0∧more=false then 0 else zV na (x-bcY y more) e more
theorem chU{ma mb:Nat}{ea eb:Int}{up:Nat}(hup:up=(min (ea-eb) 64).toNat)(hj:j=(ea-up-eb).toNat):btN na ma ea nb mb eb=clQ na nb (ma*2^up) (mb/2^j) (ea-up) (decide (mb%2^j≠0)):=by
 subst hup;subst hj;rfl
theorem cbI{m:Nat}(hm:m<9007199254740992)(hn:n≤64):m*2^n<166153499473114484112975882535043072:=by
 have h1:2^n≤2^64:=aW aC hn;have h2:m*2^n≤9007199254740991*2^64:=cS aA h1;exact aU h2 aC
theorem aeL:M2=340282366920938463463374607431768211456:=rfl
theorem wShlU(v:Nat)(n:Nat)(hn:n<128)(q:Int)(hq:q=(n:Int)):Fn 187 [u2 v,.int .i64 q] (u2 (v*2^n%M2)):=by
 intro H;by_cases h:n<64
 ·exact aiB v n h q hq H
 exact bhE v n ⟨by omega,hn⟩ q hq H
theorem azK{a b:Nat}(ha:a<M2)(h:b≤a):(a+M2-b)%M2=a-b:=by unfold M2 at *;omega
theorem blS{z:Nat}(hx:x<M2)(h:¬x<z):(decide (((((x+M2-z)%M2/M1:Nat)):Int)=0∧((((x+M2-z)%M2%M1:Nat)):Int)=0))=decide (x-z=0):=by
 rw[azK hx aA];refine aT.2 ?_;unfold M1;omega
theorem btG(a b:Nat)(ha:a<18446744073709551616)(hb:b<18446744073709551616):Fn 190 [.int .u64 (a:Int),.int .u64 (b:Int)] (.int .i64 (clL a b)):=by
 intro H;have hka:=arZ (zK a);have hkb:=arZ (zK b);refine .of_body func190 rfl ntmps190 results190 rfl ?_;iterate 7 refine AX ?_
 refine .p rfl (aeF U251 Z3 zr251 (.cons zH (.inl rfl) (.cons zH (.inl rfl) (.cons zH (.inl rfl) (.cons zH (.inl rfl) .nil)))) rfl) (.p rfl (aeF U251 Z3 zr251 (.cons zH (.inl rfl) (.cons zH (.inl rfl) (.cons zH (.inl rfl) (.cons zH (.inl rfl) .nil)))) rfl) (.p rfl (aeF U251 Z3 zr251 (.cons zH (.inl rfl) (.cons zH (.inl rfl) (.cons zH (.inl rfl) (.cons zH (.inl rfl) .nil)))) rfl) (.p rfl (aeF U251 Z3 zr251 (.cons zH (.inl rfl) (.cons zH (.inl rfl) (.cons zH (.inl rfl) (.cons zH (.inl rfl) .nil)))) rfl) (.p rfl (aeF U252 Z251 zr252 (.cons (tm rfl) (.inr ⟨_,rfl⟩) (.cons (tm rfl) (.inr ⟨_,rfl⟩) (.cons (tm rfl) (.inr ⟨_,rfl⟩) (.cons (tm rfl) (.inr ⟨_,rfl⟩) .nil)))) rfl) ?_))));refine .al zr252 (λb5 hb5=>?_);iterate 3 refine AX ?_
 refine .frz (t:=5) rfl (hb5) ?_;refine AX ?_;refine .draw [(0,true),(1,true),(2,true),(3,true),(4,true),(5,true),(6,true),(7,true)] rfl aE ?_;refine AX ?_;refine .f rfl rfl (λ_=>zB C242 (evs1 rfl) (ajM _ aB _)) ?_;refine AX ?_;refine .f rfl rfl (λ_=>zB C242 (evs1 rfl) (ajM _ aB _)) ?_;iterate 2 refine AX ?_
 refine .p rfl rfl (axX G3 (tm rfl) (cfD hka hkb)) ?_;iterate 5 refine AX ?_
 exact⟨rfl,rfl⟩
theorem buJ(a b:Nat)(ha:a<18446744073709551616)(hb:b<18446744073709551616):Fn 191 [.int .u64 (a:Int),.int .u64 (b:Int)] (.int .u64 ((arK a b:Nat):Int)):=by
 intro H;have hpa:=yM a;have hpb:=yM b;have hma:=qD a;have hmb:=qD b;refine .of_body func191 rfl ntmps191 results191 rfl ?_;iterate 8 refine AM ?_
 refine .cl rfl C181 (evs1 rfl) (acM a ha _) ?_;iterate 12 refine AX ?_
 refine .cl rfl C181 (evs1 rfl) (acM b hb _) ?_;iterate 9 refine AX ?_
 refine .meet (λenv H2=>∃(na nb:Bool)(ma mb:Nat)(ea eb:Int),eb≤ea∧ma<9007199254740992∧mb<9007199254740992∧(-1075≤eb∧ea≤972)∧btN na ma ea nb mb eb=arK a b∧env=[(4,.int .u64 ((0:Nat):Int)),(5,.bool na),(6,.int .u64 (ma:Int)),(7,.int .i64 ea),(8,.bool nb),(9,.int .u64 (mb:Int)),(10,.int .i64 eb)]∧H=H2) ?_ ?_
 ·iterate 7 refine AX ?_
  refine .cx rfl (λhc34=>?_) (λhc34=>?_)
  ·iterate 15 refine AX ?_
   refine .mk ⟨_,_,_,_,_,_,by omega,by omega,by omega,by omega,by unfold arK;rw[aJ],rfl,rfl⟩ (zI rfl (zI rfl (zI rfl (zI rfl (zI rfl (zI rfl (zI rfl yJ))))))) (hRa _)
  iterate 2 refine AX ?_
  refine .mk ⟨_,_,_,_,_,_,by omega,by omega,by omega,by omega,by unfold arK;rw[aI],rfl,rfl⟩ (zI rfl (zI rfl (zI rfl (zI rfl (zI rfl (zI rfl (zI rfl yJ))))))) (hRa _)
 rintro _ _ ⟨na,nb,ma,mb,ea,eb,hle,hm1,hm2,hr,hsum,rfl,rfl⟩;obtain⟨up,hup⟩:∃up:Nat,up=(min (ea-eb) 64).toNat:=⟨_,rfl⟩;obtain⟨j,hj⟩:∃j:Nat,j=(ea-up-eb).toNat:=⟨_,rfl⟩;have hup64:up≤64:=by omega
 have hroom:=cbI hm1 hup64;have hyl:mb/2^j≤mb:=cY _ _;rw[←hsum,chU hup hj];iterate 10 refine AX ?_
 rw[show btO (ea-eb) 64=((up:Nat):Int) by simp only[btO];split<;>omega];iterate 2 refine AX ?_
 refine .p rfl (zX zr149 pl149 (.cons (tm rfl) (.inl rfl) .nil) rfl) ?_;refine AX ?_;refine .cl rfl C187 (evs2 rfl rfl) ((by have h:=λH=>wShlU ma up aA _ rfl H;rw[amZ (by(unfold M1;omega))]at h;exact h _)) ?_;rw[bE (show ma*2^up<M2 by rw[aeL];omega)];iterate 3 refine AX ?_
 refine .al zr149 (λb12 hb12=>?_);iterate 4 refine AX ?_
 refine .frz (t:=12) rfl (hb12) ?_;iterate 3 refine AX ?_
 refine .p rfl (zX zr149 pl149 (.cons (tm rfl) (.inl rfl) .nil) rfl) ?_;iterate 3 refine AX ?_
 refine .cl rfl call188 (evs2 rfl rfl) ((by have h:=λH=>aoS mb (by rw[aeL];omega) j aA (ea-up-eb) aA H;rw[amZ (by(unfold M1;omega))]at h;exact h _)) ?_;iterate 3 refine AX ?_
 refine .al zr149 (λb14 hb14=>?_);iterate 6 refine AX ?_
 obtain⟨x,hx⟩:∃x,x=ma*2^up:=⟨_,rfl⟩;obtain⟨y,hy⟩:∃y,y=mb/2^j:=⟨_,rfl⟩;obtain⟨e,he⟩:∃e:Int,e=ea-up:=⟨_,rfl⟩;generalize hmo:decide (mb%2^j≠0)=more;rw[←hx,←hy,←he];rw[←hx]at hroom;rw[←hy]at hyl;iterate 3 refine AX ?_
 refine .p rfl (beM U4 (tm rfl) (tm rfl)) ?_;iterate 2 refine AX ?_
 refine .cx rfl (λhc63=>?_) (λhc63=>?_)
 ·iterate 4 refine AX ?_
  refine .cl rfl call243 (evs2 rfl rfl) (aoU x y (by rw[aeL];omega) (by rw[aeL];omega) _) ?_;rw[bE (show x+y<M2 by rw[aeL];omega)];iterate 3 refine AX ?_
  refine .al zr149 (λb16 hb16=>?_);have hn14_16:=Heap.ne_of (oS _ _ _) hb16;iterate 4 refine AX ?_
  refine .frz (t:=16) rfl (hb16) ?_;iterate 6 refine AX ?_
  refine .cl rfl C122 (.cons (tm rfl) (evs3 rfl rfl rfl)) (adX na (x+y) (by rw[aeL];omega) e aA more _) ?_;iterate 3 refine AX ?_
  refine .dropb (hb14) ?_;iterate 3 refine AX ?_
  refine⟨?_,rfl⟩;unfold clQ;rw[aN (by simpa using hc63)];rfl
 iterate 2 refine AX ?_
 refine .meet (λenv H2=>env=[(4,.int .u64 ((0:Nat):Int)),(5,.bool na),(8,.bool nb),(12,.iptr (u2 x).cells),(13,.int .i64 e),(14,.ptr (some ⟨b14,0,none⟩)),(15,.bool more)]∧H2=H.set b14 (.box 149 (u2 (bcY y more)).cells)) ?_ ?_
 ·iterate 5 refine AX ?_
  refine .cx rfl (λhc75=>?_) (λhc75=>?_)
  ·iterate 2 refine AX ?_
   refine .p rfl (zX zr149 pl149 (.cons (zR 1) (.inl rfl) .nil) rfl) ?_;refine .cl rfl call243 (evs2 rfl rfl) ((by have h:=λH=>aoU y 1 (by rw[aeL];omega) aE H;rw[amZ (show 1<M1 by decide)]at h;exact h _)) ?_;rw[bE (show y+1<M2 by rw[aeL];omega)];iterate 6 refine AX ?_
   refine .mk ⟨rfl,by rw[show bcY y more=y+1 from aN hc75];rfl⟩ (zI rfl (zI rfl (zI rfl (zI rfl (zI rfl (zI rfl (zI rfl yJ))))))) (hRa _)
  iterate 2 refine AX ?_
  refine .mk ⟨rfl,by rw[show bcY y more=y from aL (by rw[hc75];decide)];rfl⟩ (zI rfl (zI rfl (zI rfl (zI rfl (zI rfl (zI rfl (zI rfl yJ))))))) (hRa _)
 rintro _ _ ⟨rfl,rfl⟩;have hty:bcY y more≤y+1:=by unfold bcY;split<;>omega
 iterate 4 refine AX ?_
 refine .cl rfl call244 (evs2 rfl rfl) (awU x (bcY y more) (by rw[aeL];omega) (by rw[aeL];omega) _) ?_;iterate 3 refine AX ?_
 refine .al zr149 (λb18 hb18=>?_);have hn14_18:=Heap.ne_of (oS _ _ _) hb18;iterate 11 refine AX ?_
 refine .cx rfl (λhc93=>?_) (λhc93=>?_)
 ·iterate 4 refine AX ?_
  refine .cl rfl call244 (evs2 rfl rfl) (awU (bcY y more) x (by rw[aeL];omega) (by rw[aeL];omega) _) ?_;rw[azK (by rw[aeL];omega) aA];iterate 11 refine AX ?_
  refine .cl rfl C122 (.cons (tm rfl) (.cons (tm rfl) (.cons (tm rfl) (.cons yK .nil)))) (adX nb (bcY y more-x) (by rw[aeL];omega) e aA false _) ?_;iterate 3 refine AX ?_
  refine .dropb (hb18) ?_;refine .dropb (hb14) ?_;iterate 3 refine AX ?_
  refine⟨?_,rfl⟩;unfold clQ;rw[aL (by simpa using hc63),aN (by simpa using hc93)];rfl
 have hxz:¬x<bcY y more:=by simpa using hc93
 refine .seqTo 105 (.bool (decide (x-bcY y more=0)&& !more)) [4,5,13,15,18] ?_ ?_
 ·iterate 2 refine AX ?_
  refine .p rfl (zX zr149 pl149 .nil rfl) ?_;refine .p rfl (qC eqGuardType149 (tm rfl) (tm rfl) (eq2 _ _ _ _)) ?_;refine AX ?_;refine zC (t:=109) rfl (λhg109=>?_) (λhg109=>?_)
  ·have hh109:=hg109;try simp only[aO]at hh109
   iterate 5 refine AX ?_
   exact⟨rfl,zL rfl (by(rw[←blS (by rw[aeL];omega) hxz,hg109];rfl)) (zI rfl (zI rfl (zI rfl (zI rfl (zI rfl yJ))))),rfl⟩
  have hh109:=hg109;try simp only[aM]at hh109
  iterate 5 refine AX ?_
  exact⟨rfl,zL rfl (by(rw[←blS (by rw[aeL];omega) hxz,hg109];rfl)) (zI rfl (zI rfl (zI rfl (zI rfl (zI rfl yJ))))),rfl⟩
 refine .sub [(105,_),(4,_),(5,_),(13,_),(15,_),(18,_)] (zI rfl (zI rfl (zI rfl (zI rfl (zI rfl (zI rfl yJ)))))) ?_;refine .cx rfl (λhc105=>?_) (λhc105=>?_)
 ·iterate 5 refine AM ?_
  refine .dropb (hb18) ?_;refine .dropb (hb14) ?_;iterate 3 refine AX ?_
  refine⟨?_,rfl⟩;unfold clQ;rw[aL (by simpa using hc63),aL hxz,aN (by simpa using hc105)];rfl
 refine AX ?_;rw[azK (by rw[aeL];omega) aA];iterate 5 refine AX ?_
 refine .cl rfl C122 (.cons (tm rfl) (evs3 rfl rfl rfl)) (adX na (x-bcY y more) (by rw[aeL];omega) e aA more _) ?_;iterate 3 refine AX ?_
 refine .dropb (hb18) ?_;refine .dropb (hb14) ?_;iterate 3 refine AX ?_
 refine⟨?_,rfl⟩;unfold clQ;rw[aL (by simpa using hc63),aL hxz,aL (by simpa using hc105)];rfl
theorem ayU(a b:Nat)(ha:a<18446744073709551616)(hb:b<18446744073709551616):Fn 131 [.int .u64 (a:Int),.int .u64 (b:Int)] (.int .u64 ((ajI a b:Nat):Int)):=by
 intro H;refine .of_body func131 rfl ntmps131 results131 rfl ?_;iterate 10 refine AM ?_
 refine .cl rfl call190 (evs2 rfl rfl) (btG a b ha hb _) ?_;iterate 9 refine AX ?_
 refine .cx rfl (λhc8=>?_) (λhc8=>?_)
 ·iterate 9 refine AM ?_
  refine⟨?_,rfl⟩;unfold ajI;rw[aN aB];rfl
 iterate 6 refine AX ?_
 refine .cx rfl (λhc10=>?_) (λhc10=>?_)
 ·iterate 10 refine AX ?_
  refine⟨?_,rfl⟩;unfold ajI;rw[aL aB,aN aB];rfl
 iterate 6 refine AX ?_
 refine .cx rfl (λhc13=>?_) (λhc13=>?_)
 ·iterate 10 refine AX ?_
  refine⟨?_,rfl⟩;unfold ajI;rw[aL aB,aL aB,aN aB];rfl
 iterate 6 refine AX ?_
 refine .cx rfl (λhc16=>?_) (λhc16=>?_)
 ·iterate 10 refine AX ?_
  refine .cx rfl (λhc18=>?_) (λhc18=>?_)
  ·iterate 12 refine AX ?_
   refine⟨?_,rfl⟩;unfold ajI;rw[aL aB,aL aB,aL aB,aN aB,aJ];rfl
  iterate 3 refine AX ?_
  refine .cl rfl C89 (evs1 rfl) (aaA _ aB _) ?_;iterate 4 refine AX ?_
  refine .cx rfl (λhc23=>?_) (λhc23=>?_)
  ·iterate 11 refine AM ?_
   refine⟨?_,rfl⟩;unfold ajI;rw[aL aB,aL aB,aL aB,aN aB,aI,aJ];rfl
  iterate 12 refine AM ?_
  refine⟨?_,rfl⟩;unfold ajI;rw[aL aB,aL aB,aL aB,aN aB,aI,aI];rfl
 iterate 7 refine AX ?_
 refine .cl rfl call191 (evs2 rfl rfl) (buJ a b ha hb _) ?_;iterate 5 refine AX ?_
 refine⟨?_,rfl⟩;unfold ajI;rw[aL aB,aL aB,aL aB,aL aB];rfl
theorem bcR(h:x<2^63):x^^^2^63=2^63+x:=by
 apply Nat.eq_of_testBit_eq;intro i;rw[Nat.testBit_xor,Nat.testBit_two_pow];rcases Nat.lt_trichotomy i 63 with hi|rfl|hi
 ·rw[Nat.testBit_two_pow_add_gt hi,bB aA,Bool.xor_false]
 ·rw[Nat.testBit_two_pow_add_eq,aY rfl,Bool.xor_true]
 have h2:2^63+x<2^i:=by
  have:2^64≤2^i:=aW aC hi;have e:(2:Nat)^64=2^63+2^63:=by decide
  omega
 rw[Nat.testBit_lt_two_pow h2,Nat.testBit_lt_two_pow (show x<2^i by omega),bB aA];rfl
theorem caN(h:x<18446744073709551616):x^^^9223372036854775808=if 9223372036854775808≤x then x-9223372036854775808 else x+9223372036854775808:=by
 have e:(9223372036854775808:Nat)=2^63:=by decide
 split
 ·rename_i q
  obtain⟨y,rfl⟩:∃y,x=9223372036854775808+y:=⟨x-9223372036854775808,by omega⟩;have hy:y<2^63:=by rw[←e];omega
  rw[fR,e,←bcR hy,Nat.xor_assoc,Nat.xor_self,Nat.xor_zero]
 rename_i q
 rw[e,bcR (by rw[←e];omega),dS]
theorem ceX{a:Nat}(h:a<18446744073709551616):a-(a&&&9223372036854775808)=a%9223372036854775808:=by
 have e:a&&&9223372036854775808=if a.testBit 63 then 9223372036854775808 else 0:=by
  apply Nat.eq_of_testBit_eq;intro i;rw[Nat.testBit_and,show(9223372036854775808:Nat)=2^63 by decide,Nat.testBit_two_pow];by_cases hi:63=i
  ·subst hi;cases a.testBit 63
   ·simp
   simp only[decide_true,Bool.and_self,if_true];rw[Nat.testBit_two_pow];simp
  cases a.testBit 63
  ·simp[hi]
  simp only[hi,decide_false,Bool.and_false,if_true];rw[Nat.testBit_two_pow];simp[hi]
 rw[e,Nat.testBit_eq_decide_div_mod_eq];have h2:(2:Nat)^63=9223372036854775808:=by decide
 rw[h2];split<;>simp_all<;>omega
def clM(x:Nat):Nat:=if zK x=4 then bcN else x%9223372036854775808
theorem ayS(a:Nat)(ha:a<18446744073709551616):Fn 56 [.int .u64 (a:Int)] (.int .u64 ((ajS a:Nat):Int)):=by
 intro H;refine .of_body func56 rfl ntmps56 results56 rfl ?_;iterate 9 refine AM ?_
 refine .cl rfl C89 (evs1 rfl) (aaA _ aB _) ?_;iterate 3 refine AX ?_
 refine .cx rfl (λhc5=>?_) (λhc5=>?_)
 ·iterate 8 refine AM ?_
  refine⟨?_,rfl⟩;unfold ajS;rw[aJ];rfl
 iterate 5 refine AX ?_
 refine .p rfl (bqP (tm rfl) (zR 9223372036854775808) aB aA) ?_;iterate 5 refine AX ?_
 refine⟨?_,rfl⟩;unfold ajS;rw[aI,←caN ha];rfl
theorem bsJ(a:Nat)(ha:a<18446744073709551616):Fn 228 [.int .u64 (a:Int)] (.int .u64 ((clM a:Nat):Int)):=by
 intro H;refine .of_body func228 rfl ntmps228 results228 rfl ?_;iterate 9 refine AM ?_
 refine .cl rfl C89 (evs1 rfl) (aaA _ aB _) ?_;iterate 3 refine AX ?_
 refine .cx rfl (λhc5=>?_) (λhc5=>?_)
 ·iterate 8 refine AM ?_
  refine⟨?_,rfl⟩;unfold clM;rw[aJ];rfl
 iterate 5 refine AX ?_
 refine .p rfl (baS (tm rfl) (zR 9223372036854775808) aB aA) ?_;iterate 5 refine AX ?_
 refine⟨?_,rfl⟩;unfold clM;rw[aI,←ceX ha];rfl
end
end Go.Proofs.YtmmgbnolccpjoaaGreatDoor
