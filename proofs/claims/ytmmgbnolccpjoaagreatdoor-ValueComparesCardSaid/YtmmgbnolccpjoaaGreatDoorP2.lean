import Derived.Test.YtmmgbnolccpjoaaGreatDoorP1
namespace Go.Proofs.YtmmgbnolccpjoaaGreatDoor
open Go.Proofs.Tryz
open Go Go.RowKit
variable{a b j k m n v:Nat}{more neg:Bool}{u:Int}
def rne(n k:Nat)(more:Bool):Nat:=
 if n/2^(k-1)%2=1∧(n%2^(k-1)≠0∨more=true∨n/2^k%2=1)then n/2^k+1 else n/2^k
def yB(n:Nat)(e:Int):Int:=if e+zY n-53< -1074 then-1074 else e+zY n-53
def acY(n:Nat)(e:Int)(more:Bool):Nat:=if yB n e≤e then n*2^(e-yB n e).toNat else rne n (yB n e-e).toNat more
def amY:Nat:=9218868437227405312
def qG(neg:Bool):Nat:=if neg=true then 9223372036854775808 else 0
def adY(m:Nat)(u:Int):Nat:=
 if m<4503599627370496 then m
 else if u+1075≥2047 then amY
 else m+(u+1074).toNat*4503599627370496
def beU(neg:Bool)(m:Nat)(u:Int):Nat:=qG neg+(if m=9007199254740992 then adY 4503599627370496 (u+1)else adY m u)
def zV(neg:Bool)(n:Nat)(e:Int)(more:Bool):Nat:=
 if n=0∨(e< -10000∧e+zY n< -2000)then qG neg
 else if 2000<e then qG neg+amY
 else beU neg (acY n e more) (yB n e)
theorem bkQ(h:0<n/2^j):zY n=zY (n/2^j)+j:=by
 have h1:zY n≤zY (n/2^j)+j:=by
  rw[yQ,bI];exact(bR (bO aC)).1 (yQ.1 (aV _))
 have h2:zY (n/2^j)+j≤zY n:=by
  have hb:0<zY (n/2^j):=qQ.2 (by rw[dI];exact h);have h3:2^(zY (n/2^j)-1)≤n/2^j:=qQ.1 aA;have h4:2^(zY (n/2^j)-1+j)≤n:=by
   rw[bI];exact aZ (bC _ h3) (eZ _ _)
  have:=qQ.2 h4;omega
 omega
theorem ciH(hk:2≤k):rne n (k+j) more=rne (n/2^j) k (more||decide (n%2^j≠0)):=by
 have e1:n/2^(k+j)=n/2^j/2^k:=by rw[bY,←bI,dS]
 have e2:n/2^(k+j-1)=n/2^j/2^(k-1):=by rw[bY,←bI,show k+j-1=j+(k-1) by omega]
 have e3:n%2^(k+j-1)≠0↔(n%2^j≠0∨n/2^j%2^(k-1)≠0):=by
  rw[show k+j-1=j+(k-1) by omega,bI,Nat.mod_mul];have h:0<2^j:=bO aC;constructor
  ·grind
  rintro(q|q) h1
  ·omega
  have:0<2^j*(n/2^j%2^(k-1)):=fP h (eI q);omega
 unfold rne;rw[e1,e2];have e4:(n%2^(k+j-1)≠0∨more=true∨n/2^j/2^k%2=1)↔(n/2^j%2^(k-1)≠0∨(more||decide (n%2^j≠0))=true∨n/2^j/2^k%2=1):=by
  rw[e3,cN,aO];constructor
  ·grind
  grind
 simp only[e4]
theorem aeZ{e:Int}(hb:55≤zY (n/2^j))(he: -10000≤e)(he2:e≤2000):
  zV neg n e more=zV neg (n/2^j) (e+j) (more||decide (n%2^j≠0)):=by
 have hp:0<n/2^j:=by
  have:=qQ.1 (show 0<zY (n/2^j) by omega);rw[dI]at this;exact this
 have hn:0<n:=by
  rcases bJ n with h|h
  ·subst h;simp at hp
  exact h
 have hl:=bkQ hp;have hu:yB n e=yB (n/2^j) (e+j):=by unfold yB;rw[hl];split<;>split<;>omega
 have hu2:yB n e≥e+j+2:=by unfold yB;split<;>omega
 have hm:acY n e more=acY (n/2^j) (e+j) (more||decide (n%2^j≠0)):=by
  unfold acY;rw[aI,←hu,aI,show(yB n e-e).toNat=(yB n e-(e+j)).toNat+j by omega];exact ciH aA
 unfold zV;rw[aI,aI,aI,hm,hu];by_cases h2:2000<e+(j:Int)
 ·rw[aN h2]
  
  have hu3:yB (n/2^j) (e+j)=e+j+zY (n/2^j)-53:=by unfold yB;split<;>omega
  have hge:4503599627370496≤acY (n/2^j) (e+j) (more||decide (n%2^j≠0)):=by
   unfold acY;rw[aI];have h5:2^52≤n/2^j/2^(yB (n/2^j) (e+j)-(e+j)).toNat:=by
    rw[dJ (bO aC),←bI];refine qQ.1 ?_;omega
   unfold rne;split<;>omega
  unfold beU;split
  ·unfold adY;rw[aI,aJ]
  unfold adY;rw[aI,aJ]
 grind
theorem cbT{n1 n2:Nat}{m1 m2:Bool}(hk:1≤k)(h:n1<n2∨(n1=n2∧(m1=true→m2=true))):rne n1 k m1≤rne n2 k m2:=by
 have hn:n1≤n2:=by omega
 have hp:2^k=2^(k-1)*2:=by rw[←bQ,show(k-1).succ=k by omega]
 have hq:n1/2^(k-1)≤n2/2^(k-1):=Nat.div_le_div_right hn;have e1:n1/2^k=n1/2^(k-1)/2:=by rw[hp,bY]
 have e2:n2/2^k=n2/2^(k-1)/2:=by rw[hp,bY]
 have d1:=cH n1 (2^(k-1));have d2:=cH n2 (2^(k-1));unfold rne;rw[e1,e2];generalize n1/2^(k-1)=q1 at *;generalize n2/2^(k-1)=q2 at *;generalize hr1:n1%2^(k-1)=r1 at *;generalize hr2:n2%2^(k-1)=r2 at *;rcases cG q1 q2 with hlt|hge
 ·grind
 grind
def pk(m:Nat)(u:Int):Nat:=if m=9007199254740992 then adY 4503599627370496 (u+1)else adY m u
theorem beV(m:Nat)(u:Int)(h:m<9007199254740992):adY m u≤amY:=by
 unfold adY amY;split
 ·omega
 grind
theorem bjI{m1 m2:Nat}(hu: -1074≤u)(h:m1≤m2)(h2:m2≤9007199254740992):pk m1 u≤pk m2 u:=by
 unfold pk adY amY
 repeat' split
 all_goals omega
theorem ciO(hu: -1074≤u)(h:m≤9007199254740992):pk m u≤adY 4503599627370496 (u+1):=by
 have:=bjI hu h (aV _);unfold pk at this ⊢;rw[aN rfl]at this;exact this
theorem ccI{u1 u2:Int}(h1: -1074≤u1)(h:u1≤u2):adY 4503599627370496 u1≤adY 4503599627370496 u2:=by
 unfold adY amY
 repeat' split
 all_goals omega
theorem azJ(n:Nat)(e:Int): -1074≤yB n e:=by unfold yB;split<;>omega
theorem agU(h:a≤b):zY a≤zY b:=yQ.2 (aU h (yQ.1 (aV _)))
theorem btX(h:a≤b)(e:Int):yB a e≤yB b e:=by
 have:=agU h;unfold yB;split<;>split<;>omega
theorem cmA(h:n<2^(b+k)):rne n k more≤2^b:=by
 have:n/2^k<2^b:=by rw[bR (bO aC),←bI];exact h
 unfold rne;split<;>omega
theorem amN(n:Nat)(e:Int)(more:Bool):acY n e more≤9007199254740992:=by
 have hn:n<2^zY n:=yQ.1 (aV _);have e53:(9007199254740992:Nat)=2^53:=by decide
 unfold acY;split
 ·rename_i h
  have hb:zY n+(e-yB n e).toNat≤53:=by unfold yB at *;split at h<;>omega
  rw[e53];refine aZ ?_ (aW aC hb);rw[bI];exact bC _ (cT hn)
 rename_i h
 rw[e53];refine cmA (bM hn (aW aC ?_));unfold yB at *;split at h<;>omega
theorem bxG{e:Int}(h: -1074<yB n e)(hn:0<n):4503599627370496≤acY n e more:=by
 have hb:2^(zY n-1)≤n:=qQ.1 (by have:=qQ.2 (show 2^0≤n from hn);omega);have hb0:0<zY n:=qQ.2 (show 2^0≤n from hn);have e52:(4503599627370496:Nat)=2^52:=by decide
 have hu:yB n e=e+zY n-53:=by unfold yB at *;split at h<;>omega
 unfold acY;split
 ·rw[e52];refine aZ (aW aC (show 52≤zY n-1+(e-yB n e).toNat by omega)) ?_;rw[bI];exact bC _ hb
 have h5:2^52≤n/2^(yB n e-e).toNat:=by
  rw[dJ (bO aC),←bI];refine aZ (aW aC ?_) hb;omega
 unfold rne;split<;>omega
theorem baW(neg:Bool)(m:Nat)(u:Int):beU neg m u=qG neg+pk m u:=rfl
theorem aiF{n1 n2:Nat}{e:Int}{m1 m2:Bool}(he: -10000≤e)(he2:e≤2000)(hn:0<n1)(h:n1<n2∨(n1=n2∧(m1=true→m2=true))):zV false n1 e m1≤zV false n2 e m2:=by
 have hle:n1≤n2:=by omega
 unfold zV;rw[aI,aI,aI,aI,baW,baW];refine Nat.add_le_add_left ?_ _;have hu:=btX hle e;have l1:=azJ n1 e;rcases Int.lt_or_eq_of_le hu with hlt|heq
 ·refine aZ (ciO l1 (amN _ _ _)) (aZ (ccI aA (show yB n1 e+1≤yB n2 e by omega)) ?_);have hg:=bxG (more:=m2) (show-1074<yB n2 e by omega) (show 0<n2 by omega);have:=bjI (u:=yB n2 e) aA hg (amN _ _ _);unfold pk at this ⊢;rw[aL aC]at this;exact this
 rw[←heq];refine bjI l1 ?_ (amN _ _ _);unfold acY;rw[←heq];split
 ·exact bC _ hle
 exact cbT aA h
theorem boQ(h:0<n):zY (n*2^j)=zY n+j:=by
 have e:n*2^j/2^j=n:=fO _ (bO aC);have:=bkQ (n:=n*2^j) (j:=j) (by rw[e];exact h);rw[e]at this;exact this
theorem bvN(hk:1≤k):rne (n*2^j) (k+j) false=rne n k false:=by
 have hp:0<2^j:=bO aC;have e1:n*2^j/2^(k+j)=n/2^k:=by rw[bI,eP _ _ hp]
 have e2:n*2^j/2^(k+j-1)=n/2^(k-1):=by rw[show k+j-1=k-1+j by omega,bI,eP _ _ hp]
 have e3:n*2^j%2^(k+j-1)≠0↔n%2^(k-1)≠0:=by
  rw[show k+j-1=k-1+j by omega,bI,fL];constructor
  ·grind
  intro h q;rcases Nat.mul_eq_zero.1 q with q|q
  ·exact h q
  omega
 unfold rne;rw[e1,e2];simp only[e3]
theorem bvO(hk:1≤k)(hj:k≤j):rne (n*2^j) k false=n*2^(j-k):=by
 have e1:n*2^j/2^k=n*2^(j-k):=by
  rw[show j=j-k+k by omega,bI,←bH,fO _ (bO aC),show j-k+k-k=j-k by omega]
 have e2:n*2^j/2^(k-1)=n*2^(j-k)*2:=by
  rw[show j=(j-k+1)+(k-1) by omega,bI,←bH,fO _ (bO aC),bQ,←bH,show j-k+1+(k-1)-k=j-k by omega]
 unfold rne;rw[e1,e2,aI]
theorem acF{e:Int}(he: -10000≤e)(he2:e+j≤2000):zV neg (n*2^j) e false=zV neg n (e+j) false:=by
 rcases bJ n with h0|hn
 ·subst h0;unfold zV;simp
 have hn2:0<n*2^j:=fP hn (bO aC);have hl:=boQ (j:=j) hn;have hu:yB (n*2^j) e=yB n (e+j):=by unfold yB;rw[hl];split<;>split<;>omega
 unfold zV;rw[aI,aI,aI,aI,hu];congr 1;unfold acY;rw[hu];by_cases h1:yB n (e+j)≤e
 ·rw[aN h1,aJ,bH,←bI];congr 2;omega
 rw[aL h1];by_cases h2:yB n (e+j)≤e+j
 ·rw[aN h2,bvO aA aA];congr 2;omega
 rw[aL h2,show(yB n (e+j)-e).toNat=(yB n (e+j)-(e+j)).toNat+j by omega,bvN aA]
def bdY(a b k:Nat):Nat:=zV false (a*2^k/b) (-(k:Int)) (decide (a*2^k%b≠0))
theorem cmC(hb:0<b)(h:55≤zY (a*2^k/b))(hk:k+1≤10000):bdY a b (k+1)=bdY a b k:=by
 have e1:a*2^(k+1)/b/2^1=a*2^k/b:=by
  rw[gD,bY,bQ,←bH,eP _ _ aC]
 unfold bdY;rw[aeZ (j:=1) (by rw[e1];exact h) aA aA,e1,show(-((k+1:Nat):Int))+((1:Nat):Int)= -(k:Int) by omega];congr 1;have hd:=cH (a*2^k) b;have hr:=bU (a*2^k) hb;have e2:a*2^(k+1)=b*(2*(a*2^k/b))+2*(a*2^k%b):=by
  rw[bQ,←bH,←hd];generalize a*2^k/b=q;generalize hr2:(b*q+a*2^k%b)%b=r at *;rw[fJ,Nat.mod_mod]at hr2;rw[←hr2,fK hb,bW hr,cB,bT,bH,bK q 2,bK 2 (a*2^k%b)]
 generalize hq:a*2^k/b=q at *;generalize hrr:a*2^k%b=r at *;rw[e2];rcases cG (2*r) b with hc|hc
 ·rw[fJ,bE hc,fK hb,bW hc,cB,gD,Nat.mul_mod_right];by_cases hr0:r=0
  ·simp[hr0]
  grind
 have e3:2*r=b*1+(2*r-b):=by omega
 have hc2:2*r-b<b:=by omega
 rw[e3,←eG,←cA,fJ,bE hc2,fK hb,bW hc2,cB,gD];have hr0:r≠0:=by omega
 have:(2*q+1)%2=1:=by omega
 simp[hr0,this]
theorem bmO{k2:Nat}(hb:0<b)(h:55≤zY (a*2^k/b))(hk:k≤k2)(hk2:k2≤10000):bdY a b k2=bdY a b k:=by
 induction k2 with
 |zero=>rw[show k=0 by omega]
 |succ m ih=>
  rcases cG m k with hm|hm
  ·grind
  rw[cmC hb ?_ hk2,ih hm aA];refine aZ h (agU (Nat.div_le_div_right (bV _ (aW aC hm))))
theorem bjK(h:m<9223372036854775808):(m|||9223372036854775808)=9223372036854775808+m:=by
 have:=bjL (a:=m) (b:=1) (k:=63) (by rw[show(2:Nat)^63=9223372036854775808 by decide];exact h);rw[show 1*(2:Nat)^63=9223372036854775808 by decide]at this;omega
theorem ccJ(hm:m≤9007199254740991):adY m u≤amY:=by
 unfold adY amY;split
 ·omega
 split<;>omega
theorem bxF{e:Int}(h:e<yB v e):
  acY v e more=(if v/2^((yB v e-e).toNat-1)%2=1∧(v%2^((yB v e-e).toNat-1)≠0∨more=true∨v/2^(yB v e-e).toNat%2=1)then v/2^(yB v e-e).toNat+1 else v/2^(yB v e-e).toNat):=by
 unfold acY;rw[aI];rfl
theorem auL{e:Int}(h:yB v e≤e):acY v e more=v*2^(e-yB v e).toNat:=by
 unfold acY;rw[aN h]
theorem ayW{e:Int}(h:e<yB v e):v/2^((yB v e-e).toNat-1)<18014398509481984:=by
 have hn:v<2^zY v:=yQ.1 (aV _);rw[bR (bO aC),show(18014398509481984:Nat)=2^54 by decide,←bI];refine bM hn (aW aC ?_);unfold yB at *;split at h<;>omega
theorem cjX{x:Nat}(h:x<18014398509481984):x*2^63%M2/M1=x/2:=by
 have e63:(2:Nat)^63=9223372036854775808:=by decide
 rw[e63];unfold M1 M2;omega
theorem boG(hk:1≤k):v/2^(k-1)/2=v/2^k:=by
 rw[bY,←bQ,show(k-1).succ=k by omega]
theorem bfP{e:Int}(h:yB v e≤e):v*2^(e-yB v e).toNat<M1:=by
 have:=amN v e false;rw[auL h]at this;unfold M1;omega
theorem btV{e:Int}(h0:0<v)(h:yB v e≤e):e-yB v e≤52:=by
 have hb:0<zY v:=qQ.2 (show 2^0≤v from h0);unfold yB at *;split at h<;>omega
theorem chQ{x:Nat}(hx:x<4294967296):v*2^32%M2/M1=(v*4294967296+x)%M2/M1∧(v*2^32%M2%M1|||x)=(v*4294967296+x)%M2%M1:=by
 have e32:(2:Nat)^32=4294967296:=by decide
 have h1:v*2^32%M2%M1|||x=v*2^32%M2%M1+x:=by
  have h2:v*2^32%M2%M1=(v%4294967296)*2^32:=by
   rw[cfO,e32];unfold M1;omega
  rw[h2];exact akM (by rw[e32];exact hx)
 rw[h1,e32];unfold M1 M2;constructor<;>omega
section
open Go Go.RowKit
set_option maxRecDepth 100000
theorem blen0{n:Nat}:((zY n:Nat):Int)=0↔n=0:=by
 have h:=@qQ n 0;rw[dI]at h;omega
def bsH(n:Nat)(e:Int):Bool:=decide (n=0∨(e< -10000∧e+zY n< -2000)∨2000<e)
def cdU(neg:Bool)(n:Nat)(e:Int):Nat:=if n=0∨(e< -10000∧e+zY n< -2000)then qG neg else if 2000<e then qG neg+amY else 0
theorem cgT{e:Int}(h:n=0∨(e< -10000∧e+zY n< -2000)):cdU neg n e=qG neg∧bsH n e=true:=by
 unfold cdU bsH;exact⟨aN h,aY aA⟩
theorem cgU{e:Int}(h:¬(n=0∨(e< -10000∧e+zY n< -2000)))(h2:2000<e):cdU neg n e=qG neg+amY∧bsH n e=true:=by
 unfold cdU bsH;exact⟨by rw[aL h,aN h2],aY aA⟩
theorem cgS{e:Int}(h:¬(n=0∨(e< -10000∧e+zY n< -2000)))(h2:¬2000<e):cdU neg n e=0∧bsH n e=false:=by
 unfold cdU bsH;exact⟨by rw[aL h,aL h2],bB aA⟩
theorem cdT{e:Int}(h:bsH n e=true):zV neg n e more=cdU neg n e:=by
 have h:=of_decide_eq_true h;unfold zV cdU;split
 ·rfl
 rw[aJ,aJ]
theorem bfU{e:Int}(h:bsH n e=false):0<n∧e≤2000∧ -110000≤e+zY n∧zV neg n e more=beU neg (acY n e more) (yB n e):=by
 have h:=of_decide_eq_false h;refine⟨by omega,by omega,by omega,?_⟩;unfold zV;rw[aI,aI]
def apM(m:Nat):Nat:=if m=9007199254740992 then 4503599627370496 else m
def anV(m:Nat)(u:Int):Int:=if m=9007199254740992 then u+1 else u
theorem bmY(neg:Bool)(m:Nat)(u:Int):beU neg m u=qG neg+adY (apM m) (anV m u):=by
 unfold beU apM anV;split<;>rfl
theorem bmZ(h:m≤9007199254740992):apM m≤9007199254740991:=by unfold apM;split<;>omega
theorem bmX(m:Nat)(u:Int):u≤anV m u∧anV m u≤u+1:=by unfold anV;split<;>omega
theorem shl52(h:k≤100000):k*2^52=k*4503599627370496:=by rw[show(2:Nat)^52=4503599627370496 by decide]
theorem aiM(neg:Bool)(m:Nat)(hm:m≤9007199254740992)(u:Int)(hu: -1074≤u∧u≤1000000):Fn 239 [.bool neg,.int .u64 (m:Int),.int .i64 u] (.int .u64 ((beU neg m u:Nat):Int)):=by
 intro H;refine .of_body func239 rfl ntmps239 results239 rfl ?_;iterate 2 refine AX ?_
 refine .p rfl (zT (zR 0)) ?_;iterate 2 refine AX ?_
 refine .seqToL [(1,.int .u64 ((apM m:Nat):Int)),(2,.int .i64 (anV m u))] [0,6] ?_ ?_
 ·iterate 3 refine AX ?_
  refine .p rfl (aeE (tm rfl) (zR 9007199254740992)) ?_;refine AY ?_;refine .cx rfl (λhc8=>?_) (λhc8=>?_)
  ·iterate 3 refine AX ?_
   refine .p rfl (zT (zR 4503599627370496)) ?_;refine AY ?_;exact⟨rfl,(zM rfl (by(unfold apM;rw[aJ];done)) (zM rfl (by(unfold anV;rw[aJ];done)) sX)),rfl⟩
  refine AX ?_;exact⟨rfl,(zM rfl (by(unfold apM;rw[aI];done)) (zM rfl (by(unfold anV;rw[aI];done)) sX)),rfl⟩
 refine .sub [(1,_),(2,_),(0,_),(6,_)] sX ?_;rw[bmY];have hA:=bmZ hm;have hU:=bmX m u;generalize apM m=m1 at hA ⊢;generalize anV m u=u1 at hU ⊢;refine .seqToL [(1,.int .u64 ((adY m1 u1:Nat):Int))] [2,0,6] ?_ ?_
 ·iterate 4 refine AX ?_
  refine .p rfl (afT (tm rfl) (zR 4503599627370496)) ?_;refine AX ?_;refine zC (t:=14) rfl (λhg14=>?_) (λhg14=>?_)
  ·have hh14:=hg14;try simp only[aO]at hh14
   refine AY ?_;refine .cx rfl (λhc11=>?_) (λhc11=>?_)
   ·try simp only[bL,aO]at hc11
    refine AX ?_;refine .p rfl (zT (zR 9218868437227405312)) ?_;refine AY ?_;exact⟨rfl,(zM rfl (by unfold adY;first|(rw[aI,aJ];rfl)|(rw[aJ];done)|(rw[aI,aI,shl52 aA])) sX),rfl⟩
   try simp only[bX,aM]at hc11
   iterate 3 refine AX ?_
   refine .p rfl (afT (tm rfl) (zR 4503599627370496)) ?_;refine AY ?_;refine .cx rfl (λhc19=>?_) (λhc19=>?_)
   ·refine AY ?_;refine .p rfl (.as (b:=.int .u64 (((u1+1074).toNat:Nat):Int)) (by congr 1;omega) (aaD U3 U22 (tm rfl) (wrap64 aA aA))) ?_;refine .p rfl (qB (tm rfl) (zR 52) aA (by rw[shl52 aA];omega)) (.p rfl (yV (tm rfl) (tm rfl) (by(rw[shl52 aA];omega))) ?_);refine AY ?_;exact⟨rfl,(zM rfl (by unfold adY;first|(rw[aI,aJ];rfl)|(rw[aJ];done)|(rw[aI,aI,shl52 aA])) sX),rfl⟩
   refine AY ?_;exact⟨rfl,(zM rfl (by unfold adY;first|(rw[aI,aJ];rfl)|(rw[aJ];done)|(rw[aI,aI,shl52 aA])) sX),rfl⟩
  have hh14:=hg14;try simp only[aM,dO]at hh14
  refine AY ?_;refine .cond_false (tm rfl) aD ?_;iterate 3 refine AX ?_
  refine .p rfl (afT (tm rfl) (zR 4503599627370496)) ?_;refine AY ?_;refine .cx rfl (λhc19=>?_) (λhc19=>?_)
  ·refine AY ?_;refine .p rfl (.as (b:=.int .u64 (((u1+1074).toNat:Nat):Int)) (by congr 1;omega) (aaD U3 U22 (tm rfl) (wrap64 aA aA))) ?_;refine .p rfl (qB (tm rfl) (zR 52) aA (by rw[shl52 aA];omega)) (.p rfl (yV (tm rfl) (tm rfl) (by(rw[shl52 aA];omega))) ?_);refine AY ?_;exact⟨rfl,(zM rfl (by unfold adY;first|(rw[aI,aJ];rfl)|(rw[aJ];done)|(rw[aI,aI,shl52 aA])) sX),rfl⟩
  refine AY ?_;exact⟨rfl,(zM rfl (by unfold adY;first|(rw[aI,aJ];rfl)|(rw[aJ];done)|(rw[aI,aI,shl52 aA])) sX),rfl⟩
 refine .sub [(1,_),(2,_),(0,_),(6,_)] sX ?_;have hM:=ccJ (u:=u1) hA;have hM2:adY m1 u1<9223372036854775808:=aU hM aC;refine AY ?_;refine .cx rfl (λhc29=>?_) (λhc29=>?_)
 ·refine AY ?_;refine .p rfl (abU (tm rfl) (zR 9223372036854775808) aA aA) ?_;refine AY ?_;refine⟨?_,rfl⟩;simp only[yD,qG];rw[aN aB,bjK hM2]
 refine AY ?_;refine⟨?_,rfl⟩;simp only[yD,qG];rw[aL aH,bZ]
theorem bpG(n:Nat)(e:Int)(hn:zY n≤100000)(he: -1000000000000000≤e∧e≤1000000000000000):Fn 238 [.int .i64 (zY n:Int),.int .i64 e] (.int .i64 (yB n e)):=by
 intro H;refine .of_body func238 rfl ntmps238 results238 rfl ?_;refine AY ?_;refine⟨?_,rfl⟩;simp only[yD,yB,bfM]<;>(congr 1;split<;>split<;>omega)
theorem byP(neg:Bool)(n:Nat)(e:Int)(hn:zY n≤100000)(he: -1000000000000000≤e∧e≤1000000000000000):Fn 237 [.bool neg,.int .i64 (zY n:Int),.int .i64 e] (.tuple [.int .u64 ((cdU neg n e:Nat):Int),.bool (bsH n e)]):=by
 intro H;have hb0:=@blen0 n;refine .of_body func237 rfl ntmps237 results237 rfl ?_;iterate 2 refine AX ?_
 refine .p rfl (zT (zR 0)) ?_;refine AY ?_;refine zC (t:=11) rfl (λhg11=>?_) (λhg11=>?_)
 ·have hh11:=hg11;try simp only[aO]at hh11
  refine AY ?_;refine .cond_true (tm rfl) aD ?_;refine AY ?_;refine .cl rfl C239 (.cons (tm rfl) (.cons (zR 0) (.cons zH .nil))) (aiM _ _ aA _ aA _) ?_;refine AY ?_;refine⟨?_,rfl⟩;obtain⟨e1,e2⟩:=cgT (neg:=neg) (n:=n) (e:=e) aA;rw[e1,e2];rfl
 have hh11:=hg11;try simp only[aM]at hh11
 refine AY ?_;refine zC (t:=14) rfl (λhg14=>?_) (λhg14=>?_)
 ·have hh14:=hg14;try simp only[aO]at hh14
  refine AY ?_;refine .cx rfl (λhc8=>?_) (λhc8=>?_)
  ·refine AY ?_;refine .cl rfl C239 (.cons (tm rfl) (.cons (zR 0) (.cons zH .nil))) (aiM _ _ aA _ aA _) ?_;refine AY ?_;refine⟨?_,rfl⟩;obtain⟨e1,e2⟩:=cgT (neg:=neg) (n:=n) (e:=e) aA;rw[e1,e2];rfl
  refine AY ?_;refine .cx rfl (λhc23=>?_) (λhc23=>?_)
  ·refine AY ?_;refine .cl rfl C239 (.cons (tm rfl) (.cons (zR 4503599627370496) (.cons zH .nil))) (aiM _ _ aA _ aA _) ?_;refine AY ?_;refine⟨?_,rfl⟩;obtain⟨e1,e2⟩:=cgU (neg:=neg) (n:=n) (e:=e) aA aA;rw[e1,e2];rfl
  iterate 5 refine AX ?_
  refine .p rfl (zT (zR 0)) ?_;refine AY ?_;refine⟨?_,rfl⟩;obtain⟨e1,e2⟩:=cgS (neg:=neg) (n:=n) (e:=e) aA aA;rw[e1,e2];rfl
 have hh14:=hg14;try simp only[aM,cO]at hh14
 refine AY ?_;refine .cond_false (tm rfl) aD ?_;refine AY ?_;refine .cx rfl (λhc23=>?_) (λhc23=>?_)
 ·refine AY ?_;refine .cl rfl C239 (.cons (tm rfl) (.cons (zR 4503599627370496) (.cons zH .nil))) (aiM _ _ aA _ aA _) ?_;refine AY ?_;refine⟨?_,rfl⟩;obtain⟨e1,e2⟩:=cgU (neg:=neg) (n:=n) (e:=e) aA aA;rw[e1,e2];rfl
 iterate 5 refine AX ?_
 refine .p rfl (zT (zR 0)) ?_;refine AY ?_;refine⟨?_,rfl⟩;obtain⟨e1,e2⟩:=cgS (neg:=neg) (n:=n) (e:=e) aA aA;rw[e1,e2];rfl
end
section
open Go Go.RowKit
set_option maxRecDepth 100000
def dM(v:Nat)(k:Int):Nat:=if k≤0 then v*2^(-k).toNat else v/2^k.toNat
def dH(v:Nat)(k:Int):Bool:=decide (0<k∧v/2^(k.toNat-1)%2=1)
def dR(v:Nat)(k:Int):Bool:=decide (0<k∧v%2^(k.toNat-1)≠0)
theorem cmX{P Q:Prop}[Decidable P][Decidable Q](h:P↔Q)(a b:Nat):(if P then a else b)=if Q then a else b:=by
 by_cases hp:P
 ·rw[aN hp,aN (h.1 hp)]
 rw[aL hp,aL (λq=>hp (h.2 q))]
theorem cmS(v:Nat)(e:Int)(more:Bool):
  acY v e more=if(dH v (yB v e-e)&&(dR v (yB v e-e)||more||decide (((dM v (yB v e-e)&&&1:Nat):Int)=((1:Nat):Int))))=true then dM v (yB v e-e)+1 else dM v (yB v e-e):=by
 have e1:∀x:Nat,(decide (((x&&&1:Nat):Int)=((1:Nat):Int)))=decide (x%2=1):=λx=>by
  refine aT.2 ?_;rw[show(1:Nat)=2^1-1 by decide,dC];omega
 rw[e1];by_cases h:yB v e≤e
 ·have hd:dM v (yB v e-e)=acY v e more:=by
   rw[auL h];unfold dM;rw[aJ];congr 2;omega
  have hh:dH v (yB v e-e)=false:=by unfold dH;exact bB aA
  rw[hh,Bool.false_and,aL aC,hd]
 have hd:dM v (yB v e-e)=v/2^(yB v e-e).toNat:=by unfold dM;rw[aI]
 have hp:0<yB v e-e:=by omega
 rw[bxF aA,hd];have hH:dH v (yB v e-e)=decide (v/2^((yB v e-e).toNat-1)%2=1):=by unfold dH;exact aT.2 ⟨λq=>q.2,λq=>⟨hp,q⟩⟩
 have hR:dR v (yB v e-e)=decide (v%2^((yB v e-e).toNat-1)≠0):=by unfold dR;exact aT.2 ⟨λq=>q.2,λq=>⟨hp,q⟩⟩
 rw[hH,hR];refine cmX ?_ _ _;simp only[bL,cN,aO,or_assoc]
theorem bdG(neg:Bool)(n:Nat)(e:Int)(more:Bool)(hn:zY n≤100000)(he: -1000000000000000≤e∧e≤1000000000000000)(f:FuncId)(cap:List AV)(H:Heap)(hent:∀args w,(callFunc f args).run prog w= .ok (.enter f args) w)(hf:bsH n e=false→ACall prog f ([.int .i64 (yB n e-e)]++cap) H (λy H'=>y= .tuple [.int .u64 ((dM n (yB n e-e):Nat):Int),.bool (dH n (yB n e-e)),.bool (dR n (yB n e-e))]∧H'=H)):ACall prog 184 [.bool neg,.int .i64 (zY n:Int),.int .i64 e,.bool more,.func f cap] H (λy H'=>y= .int .u64 ((zV neg n e more:Nat):Int)∧H'=H):=by
 have hmd:=cmS n e more;have hml:=amN n e more;have hdm:dM n (yB n e-e)≤9007199254740992:=by rw[hmd]at hml;split at hml<;>omega
 have hul:=azJ n e;have hur:yB n e≤1000000000000000+100000:=by unfold yB;split<;>omega
 refine .of_body func184 rfl ntmps184 results184 rfl ?_;iterate 2 refine AX ?_
 refine .p rfl (zT (zR 0)) ?_;refine AY ?_;refine .cl rfl call237 (evs3 rfl rfl rfl) (byP neg n e hn he _) ?_;refine AY ?_;refine .cx rfl (λhc24=>?_) (λhc24=>?_)
 ·have hfar:bsH n e=true:=hc24;refine AY ?_;refine⟨?_,rfl⟩;rw[cdT hfar];rfl
 have hfar:bsH n e=false:=hc24;obtain⟨hf1,hf2,hf3,hf4⟩:=bfU (neg:=neg) (more:=more) hfar;have hup:yB n e≤1000000:=by unfold yB;split<;>omega
 refine AY ?_;refine .cl rfl call238 (evs2 rfl rfl) (bpG n e hn he _) ?_;refine AY ?_;refine .e rfl (asR hent (tm rfl) (evs1 rfl) (hf hfar)) ?_;iterate 9 refine AX ?_
 refine .seqToL [(14,.int .u64 ((acY n e more:Nat):Int))] [0,10,13] ?_ ?_
 ·refine .seqTo 49 (.bool ((dH n (yB n e-e)&&(dR n (yB n e-e)||more||decide (((dM n (yB n e-e)&&&1:Nat):Int)=((1:Nat):Int)))))) [0,10,13,14] ?_ ?_
  ·refine AY ?_;refine zC (t:=39) rfl (λhg39=>?_) (λhg39=>?_)
   ·refine AY ?_;refine zC (t:=41) rfl (λhg41=>?_) (λhg41=>?_)
    ·refine AY ?_;exact⟨rfl,zL rfl (by(rw[show dH n (yB n e-e)=_ from hg39,show dR n (yB n e-e)=_ from hg41];rfl)) sX,rfl⟩
    refine AY ?_;refine zC (t:=44) rfl (λhg44=>?_) (λhg44=>?_)
    ·refine AY ?_;exact⟨rfl,zL rfl (by(rw[show dH n (yB n e-e)=_ from hg39,show dR n (yB n e-e)=_ from hg41,show more=_ from hg44];rfl)) sX,rfl⟩
    refine AX ?_;refine .gp rfl rfl rfl aB (aiL (tm rfl) (zR 1) aA aA) (.gp rfl rfl rfl aB (aeE (tm rfl) (zR 1)) ?_);refine AY ?_;exact⟨rfl,zL rfl (by(rw[show dH n (yB n e-e)=_ from hg39,show dR n (yB n e-e)=_ from hg41,show more=_ from hg44];rfl)) sX,rfl⟩
   refine AY ?_;exact⟨rfl,zL rfl (by(rw[show dH n (yB n e-e)=_ from hg39];rfl)) sX,rfl⟩
  refine .sub [(49,_),(0,_),(10,_),(13,_),(14,_)] sX ?_;refine .cx rfl (λhc49=>?_) (λhc49=>?_)
  ·rw[aN hc49]at hmd;refine AY ?_;refine .p rfl (yV (tm rfl) (zR 1) aA) ?_;refine AY ?_;exact⟨rfl,(zM rfl (by rw[hmd]) sX),rfl⟩
  rw[aL (by rw[hc49];decide)]at hmd;refine AX ?_;exact⟨rfl,(zM rfl (by rw[hmd]) sX),rfl⟩
 refine .sub [(14,_),(0,_),(10,_),(13,_)] sX ?_;refine AY ?_;refine .cl rfl C239 (evs3 rfl rfl rfl) (aiM neg _ hml _ (by constructor<;>omega) _) ?_;refine AY ?_;refine⟨?_,rfl⟩;rw[hf4];rfl
theorem bsP(v:Nat)(hv:v<M2)(k:Int)(hk: -52≤k∧k≤1000000)(h0:k≤0→v*2^(-k).toNat<M1)(h1:0<k→v/2^(k.toNat-1)<18014398509481984):Fn 186 [.int .i64 k,.iptr (u2 v).cells] (.tuple [.int .u64 ((dM v k:Nat):Int),.bool (dH v k),.bool (dR v k)]):=by
 intro H;refine .of_body func186 rfl ntmps186 results186 rfl ?_;iterate 2 refine AX ?_
 refine .p rfl (zT (zR 0)) ?_;refine AY ?_;refine .cx rfl (λhc9=>?_) (λhc9=>?_)
 ·have hq:=h0 aA;refine AY ?_;refine .cl rfl C187 (evs2 rfl rfl) (aiB v (-k).toNat aA (-k) aA _) (.p rfl (aqX U149 rfl G22 Z22 (tm rfl) rfl) ?_);refine AY ?_;refine⟨?_,rfl⟩;have e1:dM v k=v*2^(-k).toNat:=by unfold dM;rw[aJ]
  have e2:dH v k=false:=by unfold dH;exact bB aA
  have e3:dR v k=false:=by unfold dR;exact bB aA
  have e4:v*2^(-k).toNat%M2%M1=v*2^(-k).toNat:=by rw[bE (cL hq aE),bE hq]
  rw[e1,e2,e3];show AV.tuple [.int .u64 ((v*2^(-k).toNat%M2%M1:Nat):Int),_,_]=_;rw[e4]
 have hq:=h1 aA;have hqm:v/2^(k.toNat-1)%M1<18446744073709551616:=agR _;refine AY ?_;refine .cl rfl call188 (evs2 rfl rfl) (aoS v hv (k.toNat-1) aA (k-1) aA _) ?_;refine AY ?_;refine .al zr149 (λb6 hb6=>?_);iterate 4 refine AX ?_
 refine .frz (t:=6) rfl (hb6) ?_;refine AX ?_;refine .draw [(0,true),(3,true),(4,true),(5,true),(6,true),(7,true),(1,false),(2,true),(8,true),(9,true),(10,true)] rfl aE ?_;refine AX ?_;refine .p rfl rfl (zA U149 rfl Z22 (tm rfl)) ?_;refine AX ?_;refine .p rfl rfl (aiL (tm rfl) (zR 1) aB aA) (.p rfl rfl (aeE (tm rfl) (zR 1)) ?_);refine AX ?_;refine .s rfl rfl (zB C187 (.cons (tm rfl) (.cons zH .nil)) (aiB (v/2^(k.toNat-1)) 63 aC 63 rfl _)) ?_;rintro _ _ ⟨rfl,hH⟩;obtain rfl:=hH.symm;refine .p rfl rfl (aqX U149 rfl G22 Z22 (tm rfl) rfl) ?_;refine AY ?_;refine⟨?_,rfl⟩;have e1:dM v k=v/2^k.toNat:=by unfold dM;rw[aI]
 have e2:dH v k=decide (v/2^(k.toNat-1)%2=1):=by unfold dH;exact aT.2 ⟨λq=>q.2,λq=>⟨by omega,q⟩⟩
 have e3:dR v k=decide (v%2^(k.toNat-1)≠0):=by unfold dR;exact aT.2 ⟨λq=>q.2,λq=>⟨by omega,q⟩⟩
 have e4:v/2^(k.toNat-1)*2^63%M2/M1=v/2^k.toNat:=by rw[cjX hq,boG aA]
 have e5:decide (((v/2^(k.toNat-1)%M1&&&1:Nat):Int)=((1:Nat):Int))=decide (v/2^(k.toNat-1)%2=1):=by
  refine aT.2 ?_;rw[bE (cL hq aE),show(1:Nat)=2^1-1 by decide,dC];omega
 rw[e1,e2,e3];show AV.tuple [.int .u64 ((v/2^(k.toNat-1)*2^63%M2/M1:Nat):Int),.bool (decide (((v/2^(k.toNat-1)%M1&&&1:Nat):Int)=((1:Nat):Int))),_]=_;rw[e4,e5]
theorem wLen2(v:Nat)(hv:v<M2):Fn 185 [u2 v] (.int .i64 (zY v:Int)):=by
 intro H;have h:=bpC (v/M1) (v%M1) (brY hv) (agR v) H;rw[show v/M1*18446744073709551616+v%M1=v from by have:=cH v M1;rw[bK]at this;exact this]at h;exact h
theorem ckM(v:Nat)(hv:v<M2)(e:Int)(hfar:bsH v e=false)(H:Heap):ACall prog 186 ([.int .i64 (yB v e-e)]++[.iptr (u2 v).cells]) H (λy H'=>y= .tuple [.int .u64 ((dM v (yB v e-e):Nat):Int),.bool (dH v (yB v e-e)),.bool (dR v (yB v e-e))]∧H'=H):=by
 obtain⟨h0,h1,h2,h3⟩:=bfU (neg:=false) (more:=false) hfar;have hb:zY v≤128:=yQ.2 (by rw[show(2:Nat)^128=M2 by decide+kernel];exact hv);refine bsP v hv (yB v e-e) ⟨?_,?_⟩ (λq=>?_) (λq=>?_) H
 ·rcases Int.lt_or_le e (yB v e)with h|h
  ·omega
  have:=btV h0 h;omega
 ·unfold yB;split<;>omega
 ·have:=bfP (v:=v) (e:=e) aA;rw[show(-(yB v e-e)).toNat=(e-yB v e).toNat by omega];exact this
 exact ayW aA
theorem adX(neg:Bool)(v:Nat)(hv:v<M2)(e:Int)(he: -1000000000000000≤e∧e≤1000000000000000)(more:Bool):Fn 122 [.bool neg,u2 v,.int .i64 e,.bool more] (.int .u64 ((zV neg v e more:Nat):Int)):=by
 intro H;refine .of_body func122 rfl ntmps122 results122 rfl ?_;iterate 3 refine AX ?_
 refine .p rfl (zT (zR 0)) ?_;refine AY ?_;refine .cl rfl call185 (evs1 rfl) (wLen2 v hv _) ?_;refine AY ?_;refine .p rfl (bqU (tm rfl)) ?_;refine .cl rfl call184 (.cons (tm rfl) (.cons (tm rfl) (evs3 rfl rfl rfl))) (bdG neg v e more (by have:zY v≤128:=yQ.2 (by rw[show(2:Nat)^128=M2 by decide+kernel];exact hv);omega) he 186 [.iptr (u2 v).cells] _ call186 (λhfar=>ckM v hv e hfar _)) ?_;refine AY ?_;exact⟨rfl,rfl⟩
end
def awM(k:Int):Int:=if k<0 then-((zY (10^(-k).toNat)+127:Nat):Int)else(zY (10^k.toNat):Int)-128
def ajQ(k:Int):Nat:=
 if k<0 then 2^(zY (10^(-k).toNat)+127)/10^(-k).toNat
 else if zY (10^k.toNat)≤128 then 10^k.toNat*2^(128-zY (10^k.toNat))
 else 10^k.toNat/2^(zY (10^k.toNat)-128)
def bgY(k:Int):Bool:=if k<0 then false else decide (zY (10^k.toNat)≤128∨10^k.toNat%2^(zY (10^k.toNat)-128)=0)
def amH(m:Nat)(k:Int):Nat:=
 if 0≤k then zV false (m*10^k.toNat) 0 false else bdY m (10^(-k).toNat) (zY (10^(-k).toNat)+127)
def alV(m:Nat)(k:Int):Nat:=zV false (ajQ k*m) (awM k) false
def atX(m:Nat)(k:Int):Bool:=bgY k||decide (zV false ((ajQ k+1)*m) (awM k) false=alV m k)
def azO(m:Nat)(k:Int):Nat:=zY (10^(-k).toNat)+66-zY m
def asS(m:Nat)(k:Int):Nat:=if 0≤k then zV false (m*10^k.toNat) 0 false else bdY m (10^(-k).toNat) (azO m k)
theorem acW(j:Nat):0<10^j:=bO aC
theorem chM(j:Nat):10^j<2^(4*j+1):=by
 refine aU (Nat.pow_le_pow_left (show 10≤2^4 by decide) j) ?_;rw[←eE];exact eC aC aA
theorem akV(j:Nat):zY (10^j)≤4*j+1:=yQ.2 (chM j)
theorem afE(h:0<n):0<zY n:=qQ.2 (by rw[dI];exact h)
theorem avN(h:0<n):2^(zY n-1)≤n:=qQ.1 (by have:=afE h;omega)
theorem ahO(n:Nat):n<2^zY n:=yQ.1 (aV _)
theorem biM{K p:Nat}(hm:0<m)(hp:0<p)(hb:0<b)(hK:K≤10000)(h1:p*b≤2^K)(h2:2^K<(p+1)*b):
  zV false (p*m) (-(K:Int)) false≤bdY m b K∧bdY m b K≤zV false ((p+1)*m) (-(K:Int)) false:=by
 have hpm:0<p*m:=fP hp hm;have e1:p*m≤m*2^K/b:=by
  rw[dJ hb,bK p m,bH];exact bV _ h1
 have e2:m*2^K/b<(p+1)*m:=by
  rw[bR hb,bK (p+1) m,bH];exact fW h2 hm
 unfold bdY;constructor
 ·refine aiF aA aA hpm ?_;rcases Nat.lt_or_eq_of_le e1 with h|h
  ·grind
  grind
 exact aiF aA aA aA (.inl e2)
theorem bjM{t p:Nat}(hm:0<m)(hj:j≤2000)(hb:55≤zY p)(h1:p*2^j≤t)(h2:t<(p+1)*2^j):
  zV false (p*m) (j:Int) false≤zV false (m*t) 0 false∧zV false (m*t) 0 false≤zV false ((p+1)*m) (j:Int) false:=by
 have hj0:0<2^j:=bO aC;have hp:0<p:=by
  rcases bJ p with h|h
  ·subst h;have:=yQ.2 (show 0<2^0 by decide);omega
  exact h
 have hpm:0<p*m:=fP hp hm;have e1:p*m≤m*t/2^j:=by
  rw[dJ hj0,bK p m,bH];exact bV _ h1
 have e2:m*t/2^j<(p+1)*m:=by
  rw[bR hj0,bK (p+1) m,bH];exact fW h2 hm
 have hbl:55≤zY (m*t/2^j):=aZ hb (agU (aZ (eR _ hm) e1));rw[aeZ (n:=m*t) (j:=j) hbl aA aA,show(0:Int)+(j:Int)=(j:Int) by omega];constructor
 ·refine aiF aA aA hpm ?_;rcases Nat.lt_or_eq_of_le e1 with h|h
  ·grind
  grind
 exact aiF aA aA aA (.inl e2)
theorem bjG{j:Nat}:0<2^(zY (10^j)+127)/10^j:=by
 rw[Nat.div_pos_iff];refine⟨acW j,aZ (cT (ahO _)) (aW aC aA)⟩
theorem biS{k:Int}(hm:0<m)(hk: -400≤k∧k≤400)(h:atX m k=true):alV m k=amH m k:=by
 unfold atX alV at h;unfold alV amH;rcases Int.lt_or_le k 0 with hn|hn
 ·rw[aI];have hA:bgY k=false:=by unfold bgY;rw[aN hn]
  have hE:awM k= -((zY (10^(-k).toNat)+127:Nat):Int):=by unfold awM;rw[aN hn]
  have hP:ajQ k=2^(zY (10^(-k).toNat)+127)/10^(-k).toNat:=by unfold ajQ;rw[aN hn]
  rw[hA,Bool.false_or,aO]at h;have hbl:=akV (-k).toNat;have ht:=acW (-k).toNat;have hp:=@bjG (-k).toNat;rw[hE,hP]at h;rw[hE,hP];generalize hK:zY (10^(-k).toNat)+127=K at *;obtain⟨a,b⟩:=biM (m:=m) (b:=10^(-k).toNat) (K:=K) (p:=2^K/10^(-k).toNat) hm hp ht aA (eZ _ _) (by
    have:=gN (2^K/10^(-k).toNat);exact(bR ht).1 this)
  rw[h]at b;exact Nat.le_antisymm a b
 rw[aN hn];have hE:awM k=(zY (10^k.toNat):Int)-128:=by unfold awM;rw[aI]
 have hbl:=akV k.toNat;have ht:=acW k.toNat;rcases cG 128 (zY (10^k.toNat))with hl|hl
 ·have hP:ajQ k=10^k.toNat/2^(zY (10^k.toNat)-128):=by unfold ajQ;rw[aI,aI]
  have hA:bgY k=decide (10^k.toNat%2^(zY (10^k.toNat)-128)=0):=by
   unfold bgY;rw[aI];exact aT.2 ⟨λq=>q.resolve_left aA,.inr⟩
  have hj:(zY (10^k.toNat):Int)-128=((zY (10^k.toNat)-128:Nat):Int):=by omega
  rw[hE,hj,hP,hA]at h;rw[hE,hj,hP];have hb:zY (10^k.toNat/2^(zY (10^k.toNat)-128))=128:=by
   have hpos:0<10^k.toNat/2^(zY (10^k.toNat)-128):=by
    rw[Nat.div_pos_iff];exact⟨bO aC,aZ (aW aC aA) (avN ht)⟩
   have:=bkQ hpos;omega
  generalize hjj:zY (10^k.toNat)-128=j at *;generalize htt:10^k.toNat=t at *;have hj0:0<2^j:=bO aC;rw[cN,aO,aO]at h;rcases h with h|h
  ·have e:m*t=t/2^j*m*2^j:=by
    have:=cH t (2^j);rw[h,cB]at this
    conv=>lhs;rw[←this]
    rw[bK (2^j),←bH,bK m]
   rw[e,acF aA aA,show(0:Int)+(j:Int)=(j:Int) by omega]
  obtain⟨a,b⟩:=bjM (m:=m) (t:=t) (p:=t/2^j) (j:=j) hm aA aA (eZ _ _) ((bR hj0).1 (gN _));rw[h]at b;exact Nat.le_antisymm a b
 have hP:ajQ k=10^k.toNat*2^(128-zY (10^k.toNat)):=by unfold ajQ;rw[aI,aN hl]
 rw[hE,hP,show(zY (10^k.toNat):Int)-128= -((128-zY (10^k.toNat):Nat):Int) by omega];rw[show 10^k.toNat*2^(128-zY (10^k.toNat))*m=m*10^k.toNat*2^(128-zY (10^k.toNat)) by rw[bK _ m,←bH]];rw[acF aA aA];congr 1;omega
theorem bdE{k:Int}(hm:0<m)(hk: -2000≤k):asS m k=amH m k:=by
 unfold asS amH;split
 ·rfl
 rename_i hn
 have hbl:=akV (-k).toNat;have ht:=acW (-k).toNat;have hb:=afE hm;refine(bmO ht ?_ (by unfold azO;omega) aA).symm;have h1:=avN hm;have h2:=ahO (10^(-k).toNat);have h3:2^65≤m*2^azO m k/10^(-k).toNat:=by
  rw[dJ ht];refine aZ (bV _ (cT h2)) (aZ ?_ (bC _ h1));rw[←bI,←bI];exact aW aC (by unfold azO;omega)
 have:=qQ.2 h3;omega
theorem adJ(n:Nat)(e:Int)(more:Bool):zV false n e more≤amY:=by
 unfold zV;split
 ·exact Nat.zero_le _
 split
 ·exact Nat.le_of_eq (by unfold qG;simp)
 rw[baW];have h:=amN n e more;unfold qG pk;rw[aL aC,bZ];split
 ·exact beV _ _ aC
 exact beV _ _ aA
end Go.Proofs.YtmmgbnolccpjoaaGreatDoor
