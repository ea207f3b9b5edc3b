import Derived.Test.YteedncdcbgplfaaGreatDoorK3
set_option maxHeartbeats 1000000
namespace Go.Proofs.YteedncdcbgplfaaGreatDoor
open Go.Proofs.Tryz
open Go Go.RowKit
variable{a b j k m n v x:Nat}{more:Bool}{u:Int}
def rne(n k:Nat)(more:Bool):Nat:=
 if n/2^(k-1)%2=1∧(n%2^(k-1)≠0∨more=true∨n/2^k%2=1)then n/2^k+1 else n/2^k
def yC(n:Nat)(e:Int):Int:=if e+yN n-53< -1074 then-1074 else e+yN n-53
def abX(n:Nat)(e:Int)(more:Bool):Nat:=if yC n e≤e then n*2^(e-yC n e).toNat else rne n (yC n e-e).toNat more
def anL:Nat:=9218868437227405312
def abA(neg:Bool):Nat:=if neg=true then 9223372036854775808 else 0
def acH(m:Nat)(u:Int):Nat:=
 if m<4503599627370496 then m
 else if u+1075≥2047 then anL
 else m+(u+1074).toNat*4503599627370496
def bfV(neg:Bool)(m:Nat)(u:Int):Nat:=abA neg+(if m=9007199254740992 then acH 4503599627370496 (u+1)else acH m u)
def yD(neg:Bool)(n:Nat)(e:Int)(more:Bool):Nat:=
 if n=0∨(e< -10000∧e+yN n< -2000)then abA neg
 else if 2000<e then abA neg+anL
 else bfV neg (abX n e more) (yC n e)
theorem bhE(h:0<n/2^j):yN n=yN (n/2^j)+j:=by
 have h1:yN n≤yN (n/2^j)+j:=by
  rw[qI,bI];exact(bW (bL aC)).1 (qI.1 (aZ _))
 have h2:yN (n/2^j)+j≤yN n:=by
  have hb:0<yN (n/2^j):=abO.2 (by rw[eA];exact h);have h3:2^(yN (n/2^j)-1)≤n/2^j:=abO.1 aA;have h4:2^(yN (n/2^j)-1+j)≤n:=by
   rw[bI];exact bC (bD _ h3) (eZ _ _)
  have:=abO.2 h4;omega
 omega
theorem cgK(hk:2≤k):rne n (k+j) more=rne (n/2^j) k (more||decide (n%2^j≠0)):=by
 have e1:n/2^(k+j)=n/2^j/2^k:=by rw[cC,←bI,fG]
 have e2:n/2^(k+j-1)=n/2^j/2^(k-1):=by rw[cC,←bI,show k+j-1=j+(k-1) by omega]
 have e3:n%2^(k+j-1)≠0↔(n%2^j≠0∨n/2^j%2^(k-1)≠0):=by
  rw[show k+j-1=j+(k-1) by omega,bI,Nat.mod_mul];have h:0<2^j:=bL aC;constructor
  ·grind
  rintro(q|q) h1
  ·omega
  have:0<2^j*(n/2^j%2^(k-1)):=gS h (eL q);omega
 unfold rne;rw[e1,e2];have e4:(n%2^(k+j-1)≠0∨more=true∨n/2^j/2^k%2=1)↔(n/2^j%2^(k-1)≠0∨(more||decide (n%2^j≠0))=true∨n/2^j/2^k%2=1):=by
  rw[e3,dB,aT];constructor
  ·grind
  grind
 simp only[e4]
theorem arA{neg:Bool}{e:Int}(hb:55≤yN (n/2^j))(he: -10000≤e)(he2:e≤2000):
  yD neg n e more=yD neg (n/2^j) (e+j) (more||decide (n%2^j≠0)):=by
 have hp:0<n/2^j:=by
  have:=abO.1 (show 0<yN (n/2^j) by omega);rw[eA]at this;exact this
 have hn:0<n:=by
  rcases bF n with h|h
  ·subst h;simp at hp
  exact h
 have hl:=bhE hp;have hu:yC n e=yC (n/2^j) (e+j):=by unfold yC;rw[hl];split<;>split<;>omega
 have hu2:yC n e≥e+j+2:=by unfold yC;split<;>omega
 have hm:abX n e more=abX (n/2^j) (e+j) (more||decide (n%2^j≠0)):=by
  unfold abX;rw[aJ,←hu,aJ,show(yC n e-e).toNat=(yC n e-(e+j)).toNat+j by omega];exact cgK aA
 unfold yD;rw[aJ,aJ,aJ,hm,hu];by_cases h2:2000<e+(j:Int)
 ·rw[aN h2]
  
  have hu3:yC (n/2^j) (e+j)=e+j+yN (n/2^j)-53:=by unfold yC;split<;>omega
  have hge:4503599627370496≤abX (n/2^j) (e+j) (more||decide (n%2^j≠0)):=by
   unfold abX;rw[aJ];have h5:2^52≤n/2^j/2^(yC (n/2^j) (e+j)-(e+j)).toNat:=by
    rw[eB (bL aC),←bI];refine abO.1 ?_;omega
   unfold rne;split<;>omega
  unfold bfV;split
  ·unfold acH;rw[aJ,aK]
  unfold acH;rw[aJ,aK]
 grind
theorem bzB{n1 n2:Nat}{m1 m2:Bool}(hk:1≤k)(h:n1<n2∨(n1=n2∧(m1=true→m2=true))):rne n1 k m1≤rne n2 k m2:=by
 have hn:n1≤n2:=by omega
 have hp:2^k=2^(k-1)*2:=by rw[←bP,show(k-1).succ=k by omega]
 have hq:n1/2^(k-1)≤n2/2^(k-1):=Nat.div_le_div_right hn;have e1:n1/2^k=n1/2^(k-1)/2:=by rw[hp,cC]
 have e2:n2/2^k=n2/2^(k-1)/2:=by rw[hp,cC]
 have d1:=cM n1 (2^(k-1));have d2:=cM n2 (2^(k-1));unfold rne;rw[e1,e2];generalize n1/2^(k-1)=q1 at *;generalize n2/2^(k-1)=q2 at *;generalize hr1:n1%2^(k-1)=r1 at *;generalize hr2:n2%2^(k-1)=r2 at *;rcases bX q1 q2 with hlt|hge
 ·grind
 grind
def pk(m:Nat)(u:Int):Nat:=if m=9007199254740992 then acH 4503599627370496 (u+1)else acH m u
theorem bbQ(m:Nat)(u:Int)(h:m<9007199254740992):acH m u≤anL:=by
 unfold acH anL;split
 ·omega
 grind
theorem bfR{m1 m2:Nat}(hu: -1074≤u)(h:m1≤m2)(h2:m2≤9007199254740992):pk m1 u≤pk m2 u:=by
 unfold pk acH anL
 repeat' split
 all_goals omega
theorem btA(hu: -1074≤u)(h:m≤9007199254740992):pk m u≤acH 4503599627370496 (u+1):=by
 have:=bfR hu h (aZ _);unfold pk at this ⊢;rw[aN rfl]at this;exact this
theorem bzR{u1 u2:Int}(h1: -1074≤u1)(h:u1≤u2):acH 4503599627370496 u1≤acH 4503599627370496 u2:=by
 unfold acH anL
 repeat' split
 all_goals omega
theorem apM(n:Nat)(e:Int): -1074≤yC n e:=by unfold yC;split<;>omega
theorem ahV(h:a≤b):yN a≤yN b:=qI.2 (bA h (qI.1 (aZ _)))
theorem bqL(h:a≤b)(e:Int):yC a e≤yC b e:=by
 have:=ahV h;unfold yC;split<;>split<;>omega
theorem cjW(h:n<2^(b+k)):rne n k more≤2^b:=by
 have:n/2^k<2^b:=by rw[bW (bL aC),←bI];exact h
 unfold rne;split<;>omega
theorem ajA(n:Nat)(e:Int)(more:Bool):abX n e more≤9007199254740992:=by
 have hn:n<2^yN n:=qI.1 (aZ _);have e53:(9007199254740992:Nat)=2^53:=by decide
 unfold abX;split
 ·rename_i h
  have hb:yN n+(e-yC n e).toNat≤53:=by unfold yC at *;split at h<;>omega
  rw[e53];refine bC ?_ (bB aC hb);rw[bI];exact bD _ (dK hn)
 rename_i h
 rw[e53];refine cjW (bQ hn (bB aC ?_));unfold yC at *;split at h<;>omega
theorem buH{e:Int}(h: -1074<yC n e)(hn:0<n):4503599627370496≤abX n e more:=by
 have hb:2^(yN n-1)≤n:=abO.1 (by have:=abO.2 (show 2^0≤n from hn);omega);have hb0:0<yN n:=abO.2 (show 2^0≤n from hn);have e52:(4503599627370496:Nat)=2^52:=by decide
 have hu:yC n e=e+yN n-53:=by unfold yC at *;split at h<;>omega
 unfold abX;split
 ·rw[e52];refine bC (bB aC (show 52≤yN n-1+(e-yC n e).toNat by omega)) ?_;rw[bI];exact bD _ hb
 have h5:2^52≤n/2^(yC n e-e).toNat:=by
  rw[eB (bL aC),←bI];refine bC (bB aC ?_) hb;omega
 unfold rne;split<;>omega
theorem arV(neg:Bool)(m:Nat)(u:Int):bfV neg m u=abA neg+pk m u:=rfl
theorem ajR{n1 n2:Nat}{e:Int}{m1 m2:Bool}(he: -10000≤e)(he2:e≤2000)(hn:0<n1)(h:n1<n2∨(n1=n2∧(m1=true→m2=true))):yD false n1 e m1≤yD false n2 e m2:=by
 have hle:n1≤n2:=by omega
 unfold yD;rw[aJ,aJ,aJ,aJ,arV,arV];refine Nat.add_le_add_left ?_ _;have hu:=bqL hle e;have l1:=apM n1 e;rcases Int.lt_or_eq_of_le hu with hlt|heq
 ·refine bC (btA l1 (ajA _ _ _)) (bC (bzR aA (show yC n1 e+1≤yC n2 e by omega)) ?_);have hg:=buH (more:=m2) (show-1074<yC n2 e by omega) (show 0<n2 by omega);have:=bfR (u:=yC n2 e) aA hg (ajA _ _ _);unfold pk at this ⊢;rw[aM aC]at this;exact this
 rw[←heq];refine bfR l1 ?_ (ajA _ _ _);unfold abX;rw[←heq];split
 ·exact bD _ hle
 exact bzB aA h
theorem bkR(h:0<n):yN (n*2^j)=yN n+j:=by
 have e:n*2^j/2^j=n:=Nat.mul_div_cancel _ (bL aC);have:=bhE (n:=n*2^j) (j:=j) (by rw[e];exact h);rw[e]at this;exact this
theorem bsB(hk:1≤k):rne (n*2^j) (k+j) false=rne n k false:=by
 have hp:0<2^j:=bL aC;have e1:n*2^j/2^(k+j)=n/2^k:=by rw[bI,gO _ _ hp]
 have e2:n*2^j/2^(k+j-1)=n/2^(k-1):=by rw[show k+j-1=k-1+j by omega,bI,gO _ _ hp]
 have e3:n*2^j%2^(k+j-1)≠0↔n%2^(k-1)≠0:=by
  rw[show k+j-1=k-1+j by omega,bI,gP];constructor
  ·grind
  intro h q;rcases Nat.mul_eq_zero.1 q with q|q
  ·exact h q
  omega
 unfold rne;rw[e1,e2];simp only[e3]
theorem bsC(hk:1≤k)(hj:k≤j):rne (n*2^j) k false=n*2^(j-k):=by
 have e1:n*2^j/2^k=n*2^(j-k):=by
  rw[show j=j-k+k by omega,bI,←bJ,Nat.mul_div_cancel _ (bL aC),show j-k+k-k=j-k by omega]
 have e2:n*2^j/2^(k-1)=n*2^(j-k)*2:=by
  rw[show j=(j-k+1)+(k-1) by omega,bI,←bJ,Nat.mul_div_cancel _ (bL aC),bP,←bJ,show j-k+1+(k-1)-k=j-k by omega]
 unfold rne;rw[e1,e2,aJ]
theorem adN{neg:Bool}{e:Int}(he: -10000≤e)(he2:e+j≤2000):yD neg (n*2^j) e false=yD neg n (e+j) false:=by
 rcases bF n with h0|hn
 ·subst h0;unfold yD;simp
 have hn2:0<n*2^j:=gS hn (bL aC);have hl:=bkR (j:=j) hn;have hu:yC (n*2^j) e=yC n (e+j):=by unfold yC;rw[hl];split<;>split<;>omega
 unfold yD;rw[aJ,aJ,aJ,aJ,hu];congr 1;unfold abX;rw[hu];by_cases h1:yC n (e+j)≤e
 ·rw[aN h1,aK,bJ,←bI];congr 2;omega
 rw[aM h1];by_cases h2:yC n (e+j)≤e+j
 ·rw[aN h2,bsC aA aA];congr 2;omega
 rw[aM h2,show(yC n (e+j)-e).toNat=(yC n (e+j)-(e+j)).toNat+j by omega,bsB aA]
def bbE(a b k:Nat):Nat:=yD false (a*2^k/b) (-(k:Int)) (decide (a*2^k%b≠0))
theorem cjZ(hb:0<b)(h:55≤yN (a*2^k/b))(hk:k+1≤10000):bbE a b (k+1)=bbE a b k:=by
 have e1:a*2^(k+1)/b/2^1=a*2^k/b:=by
  rw[Nat.pow_one,cC,bP,←bJ,gO _ _ aC]
 unfold bbE;rw[arA (j:=1) (by rw[e1];exact h) aA aA,e1,show(-((k+1:Nat):Int))+((1:Nat):Int)= -(k:Int) by omega];congr 1;have hd:=cM (a*2^k) b;have hr:=bR (a*2^k) hb;have e2:a*2^(k+1)=b*(2*(a*2^k/b))+2*(a*2^k%b):=by
  rw[bP,←bJ,←hd];generalize a*2^k/b=q;generalize hr2:(b*q+a*2^k%b)%b=r at *;rw[Nat.mul_add_mod,Nat.mod_mod]at hr2;rw[←hr2,Nat.mul_add_div hb,cD hr,cA,bY,bJ,bM q 2,bM 2 (a*2^k%b)]
 generalize hq:a*2^k/b=q at *;generalize hrr:a*2^k%b=r at *;rw[e2];rcases bX (2*r) b with hc|hc
 ·rw[Nat.mul_add_mod,bH hc,Nat.mul_add_div hb,cD hc,cA,Nat.pow_one,Nat.mul_mod_right];by_cases hr0:r=0
  ·simp[hr0]
  grind
 have e3:2*r=b*1+(2*r-b):=by omega
 have hc2:2*r-b<b:=by omega
 rw[e3,←fA,←cB,Nat.mul_add_mod,bH hc2,Nat.mul_add_div hb,cD hc2,cA,Nat.pow_one];have hr0:r≠0:=by omega
 have:(2*q+1)%2=1:=by omega
 simp[hr0,this]
theorem biT{k2:Nat}(hb:0<b)(h:55≤yN (a*2^k/b))(hk:k≤k2)(hk2:k2≤10000):bbE a b k2=bbE a b k:=by
 induction k2 with
 |zero=>rw[show k=0 by omega]
 |succ m ih=>
  rcases bX m k with hm|hm
  ·grind
  rw[cjZ hb ?_ hk2,ih hm aA];refine bC h (ahV (Nat.div_le_div_right (bS _ (bB aC hm))))
section
open Go Go.RowKit Go.Shelf
theorem bwQ(h:0<x):yN x=1+yN (x/2):=by
 rcases bX x 2 with h1|h1
 ·have:x=1:=by omega
  subst this;rfl
 rw[afH (n:=x) (k:=1) (m:=x/2) aA (by rw[Nat.pow_one])]
theorem awQ:∀(f x:Nat),x<2^f→Lib.bitLenAux f x=yN x
 |0,x,h=>by
  have:x=0:=by simpa using h
  subst this;rfl
 |f+1,x,h=>by
  unfold Lib.bitLenAux;split
  ·rename_i h0;subst h0;rfl
  rw[awQ f (x/2) (by rw[bP]at h;omega),bwQ (x:=x) aA]
theorem len64A(x:Nat)(hx:x<18446744073709551616):Fn 306 [.int .u64 (x:Int)] (.int .i64 (yN x:Int)):=by
 intro H;refine .lib _ λg vs w k st=>?_;obtain⟨v,rfl,hv⟩:=relvs1 k;cases hv
 refine(Tryz.bits_Len64 (x:Int) w aA aA).mono ?_;rintro e w' ⟨rfl,rfl⟩;refine⟨_,rfl,?_,Below.refl _ _⟩;rw[dZ,Lib.bitLen,awQ 64 x hx];exact .int _ _
theorem mul64A(x y:Nat)(hx:x<18446744073709551616)(hy:y<18446744073709551616)(H:Heap):ACall prog 250 [.int .u64 (x:Int),.int .u64 (y:Int)] H (λz H'=>z= .tuple [.int .u64 ((x*y/18446744073709551616:Nat):Int),.int .u64 ((x*y%18446744073709551616:Nat):Int)]∧H'=H):=by
 refine .lib _ λg vs w k st=>?_;obtain⟨v,u,rfl,hv,hu⟩:=relvs2 k;cases hv;cases hu
 refine(Tryz.bits_Mul64 x y hx hy w).mono ?_;rintro e w' ⟨rfl,rfl⟩;refine⟨_,rfl,.tuple _ _ rfl (λi c v hc hv=>?_),Below.refl _ _⟩
 match i with
 |0=>cases hc;cases hv;exact .int _ _
 |1=>cases hc;cases hv;exact .int _ _
 |i+2=>simp at hc
theorem ext302:IsExt prog 302 add64Entry:=⟨_,func302,by kernel_rfl,by kernel_rfl,by kernel_rfl,by kernel_rfl⟩
theorem bcS{x y c:Nat}(hc:c≤1):∀g vs w,RelVs g [.int .u64 (x:Int),.int .u64 (y:Int),.int .u64 (c:Int)] vs→∃v,(add64Entry vs.toArray).run prog w= .ok v w∧RelV g (.tuple [.int .u64 (((x+y+c)%18446744073709551616:Nat):Int),.int .u64 (((x+y+c)/18446744073709551616:Nat):Int)]) v:=by
 intro g vs w hr;obtain⟨v,u,z,rfl,h1,h2,h3⟩:=relvs3 hr;cases h1;cases h2;cases h3
 have hrun:=run_add64 (P:=prog) (x:Int) (y:Int) (c:Int) aA aA aA aA w;refine⟨_,hrun,.tuple _ _ rfl (λi c v hc hv=>?_)⟩
 match i with
 |0=>cases hc;cases hv;exact .int _ _
 |1=>cases hc;cases hv;exact .int _ _
 |i+2=>simp at hc
end
section
open Go Go.RowKit
set_option maxRecDepth 100000
def w2(h l:Nat):AV:=.agg [.int .u64 (h:Int),.int .u64 (l:Int)]
theorem ccO{h l:Nat}(hl:l<18446744073709551616)(h0:0<h):yN (h*18446744073709551616+l)=64+yN h:=by
 have e:(18446744073709551616:Nat)=2^64:=by decide
 rw[afH (n:=h*18446744073709551616+l) (k:=64) (m:=h) (by rw[←e];exact bC (Nat.le_mul_of_pos_left _ h0) (gV _ _)) (by rw[←e,fG,Nat.add_mul_div_right _ _ aC,cD hl,bZ])]
def w3(h m l:Nat):AV:=.agg [.int .u64 (h:Int),.int .u64 (m:Int),.int .u64 (l:Int)]
theorem zr220:ZR 220 [.int .u64 0,.int .u64 0]:=ZRi zeroValue220
theorem pl220:PL 220 [(0,1),(1,1)]:=PLi U220
theorem zr324:ZR 324 [.int .u64 0,.int .u64 0,.int .u64 0]:=ZRi zeroValue324
theorem pl324:PL 324 [(0,1),(1,1),(2,1)]:=PLi U324
theorem blF(h l:Nat)(hh:h<18446744073709551616)(hl:l<18446744073709551616):Fn 294 [w2 h l] (.int .i64 (yN (h*18446744073709551616+l):Int)):=by
 intro H;have hb:=(qI (n:=h) (k:=64)).2 (fM hh aC);refine .of_body func294 rfl ntmps294 results294 rfl ?_;iterate 9 refine AX ?_
 refine .p rfl (zA U220 rfl Z25 (tm rfl)) ?_;iterate 4 refine AM ?_
 refine .cx rfl (λhc5=>?_) (λhc5=>?_)
 ·iterate 2 refine AX ?_
  refine .p rfl (zA U220 rfl Z25 (tm rfl)) ?_;refine AX ?_;refine .cl rfl call306 (evs1 rfl) (len64A _ aB _) ?_;iterate 7 refine AX ?_
  refine⟨?_,rfl⟩;rw[ccO hl aA];simp only[yT];congr 1
 iterate 4 refine AX ?_
 refine .p rfl (zA U220 rfl Z25 (tm rfl)) ?_;refine AX ?_;refine .cl rfl call306 (evs1 rfl) (len64A _ aB _) ?_;iterate 5 refine AX ?_
 refine⟨?_,rfl⟩;rw[show h=0 by omega,dO,bZ];rfl
theorem auI(h m l:Nat):Fn 272 [w3 h m l] (w2 m l):=by
 intro H;refine .of_body func272 rfl ntmps272 results272 rfl ?_;iterate 3 refine AX ?_
 refine .al zr220 (λb2 hb2=>?_);iterate 4 refine AX ?_
 refine .p rfl (zA U324 rfl Z25 (tm rfl)) ?_;refine AX ?_;refine .p rfl (zA U324 rfl Z25 (tm rfl)) ?_;refine AX ?_;refine .p rfl (yU zr220 pl220 (.cons (tm rfl) (.inl rfl) (.cons (tm rfl) (.inl rfl) .nil)) rfl) ?_;iterate 3 refine AX ?_
 refine .frz (t:=2) rfl (hb2) ?_;iterate 2 refine AX ?_
 exact⟨rfl,rfl⟩
theorem anM(x y:Nat)(hx:x<18446744073709551616)(hy:y<18446744073709551616)(H:Heap):ACall prog 267 [.int .u64 (x:Int),.int .u64 (y:Int)] H (λz H'=>z=w2 (x*y/18446744073709551616) (x*y%18446744073709551616)∧H'=H):=by
 refine .of_body func267 rfl ntmps267 results267 rfl ?_;iterate 2 refine AX ?_
 refine .al zr220 (λb4 hb4=>?_);iterate 6 refine AX ?_
 refine .cl rfl call250 (evs2 rfl rfl) (mul64A _ _ aB aB _) ?_;iterate 11 refine AX ?_
 refine .p rfl (yU zr220 pl220 (.cons (tm rfl) (.inl rfl) (.cons (tm rfl) (.inl rfl) .nil)) rfl) ?_;iterate 3 refine AX ?_
 refine .frz (t:=4) rfl (hb4) ?_;iterate 2 refine AX ?_
 exact⟨rfl,rfl⟩
end
def M1:Nat:=18446744073709551616
def M2:Nat:=340282366920938463463374607431768211456
def M3:Nat:=6277101735386680763835789423207666416102355444464034512896
theorem aiO:M1=2^64:=by decide
theorem bxB:M2=M1*M1:=by decide+kernel
theorem clU:M3=M1*M2:=by decide+kernel
def u2(v:Nat):AV:=w2 (v/M1) (v%M1)
def u3(v:Nat):AV:=w3 (v/M2) (v/M1%M1) (v%M1)
theorem bvD(h:v<M2):v/M1<M1:=by
 rw[bW aC,←bxB];exact h
theorem agU(v:Nat):v%M1<M1:=bR _ aC
theorem bkA(h:v<M3):v/M2<M1:=by
 rw[bW aC,←clU];exact h
theorem ckJ{y:Nat}(hy:y<2^n)(hn:n≤64):(x*2^n%M1)|||y=x*2^n%M1+y:=by
 have e:x*2^n%M1=x%2^(64-n)*2^n:=by
  rw[aiO,show(64:Nat)=(64-n)+n by omega,bI,gP];congr 2;congr 1;omega
 rw[e];exact akX hy
theorem cfI{l:Nat}(hn:n≤64):l*2^n/M1=l/2^(64-n):=by
 rw[aiO,show(64:Nat)=(64-n)+n by omega,bI,gO _ _ (bL aC)];congr 2;omega
theorem ciJ(v:Nat)(hn:n≤64):v%M1/2^(64-n)<2^n:=by
 rw[bW (bL aC),←bI,show n+(64-n)=64 by omega,←aiO];exact agU v
theorem cjR(hn:n≤64):v*2^n%M2/M1=(v/M1*2^n%M1+v%M1/2^(64-n)):=by
 have h1:=cM v M1;have h2:v*2^n=M1*(v/M1*2^n)+v%M1*2^n:=by
  rw[←bJ,←bY,h1]
 rw[bxB,Nat.mod_mul_right_div_self,h2,Nat.mul_add_div aC,cfI hn];have h3:v%M1/2^(64-n)<2^n:=by
  rw[bW (bL aC),←bI,show n+(64-n)=64 by omega,←aiO];exact agU v
 have e:v/M1*2^n%M1=v/M1%2^(64-n)*2^n:=by
  rw[aiO,show(64:Nat)=(64-n)+n by omega,bI,gP];congr 2;congr 1;omega
 have h4:v/M1%2^(64-n)*2^n+v%M1/2^(64-n)<M1:=by
  have h5:=bR (v/M1) (bL aC:0<2^(64-n));have h6:(v/M1%2^(64-n)+1)*2^n≤2^(64-n)*2^n:=bD _ h5;rw[←bI,show 64-n+n=64 by omega,←aiO,bY,cQ]at h6;omega
 rw[Nat.add_mod,e,bH (bA (Nat.le_add_left _ _) h4),bH h4]
theorem buA(v k:Nat):v*k%M1=v%M1*k%M1:=by
 conv=>lhs;rw[Nat.mul_mod]
 conv=>rhs;rw[Nat.mul_mod,Nat.mod_mod]
theorem cdK(v n:Nat):v*2^n%M2%M1=v%M1*2^n%M1:=by
 rw[bxB,Nat.mod_mul_right_mod,buA]
theorem bvX(hk:k≤64):x/2^k%M1=x%M1/2^k+x/M1*2^(64-k)%M1:=by
 have e:M1=2^k*2^(64-k):=by rw[aiO,←bI,show k+(64-k)=64 by omega]
 have h1:x/2^k=x%M1/2^k+x/M1*2^(64-k):=by
  have h2:x=x%M1+2^k*(x/M1*2^(64-k)):=by
   have h3:=fV x M1;rw[bM (x/M1),←bJ,←e];exact h3.symm
  conv=>lhs;rw[h2]
  rw[fR _ _ (bL aC)]
 have h4:x%M1/2^k<2^(64-k):=by
  rw[bW (bL aC),←bI,show 64-k+k=64 by omega,←aiO];exact agU x
 have e2:x/M1*2^(64-k)%M1=x/M1%2^k*2^(64-k):=by
  rw[e,gP]
 have h5:x/M1%2^k*2^(64-k)+x%M1/2^k<M1:=by
  have h6:=bR (x/M1) (bL aC:0<2^k);have h7:(x/M1%2^k+1)*2^(64-k)≤2^k*2^(64-k):=bD _ h6;rw[←e,bY,cQ]at h7;omega
 rw[h1,Nat.add_mod,e2,bH (bA (Nat.le_add_left _ _) h5),fG,bH h5]
theorem btH{y:Nat}(hx:x<M1)(hk:k≤64):(x/2^k|||y*2^(64-k)%M1)=x/2^k+y*2^(64-k)%M1:=by
 rw[Nat.or_comm,ckJ (by
   rw[bW (bL aC),←bI,show 64-k+k=64 by omega,←aiO];exact hx) aA,fG]
theorem bkN(v:Nat):v/M1/M1=v/M2:=by rw[cC,←bxB]
theorem ciH(v k:Nat):v/2^k/M2=v/M2/2^k:=by rw[cC,bM,←cC]
theorem cbW(hk:k≤64):v/2^k/M1%M1=(v/M1%M1/2^k|||v/M2*2^(64-k)%M1):=by
 rw[btH (agU _) hk,cC,bM,←cC,bvX hk,bkN]
theorem ciG(hk:k≤64):v/2^k%M1=(v%M1/2^k|||v/M1%M1*2^(64-k)%M1):=by
 rw[btH (agU _) hk,bvX hk,buA (v/M1)]
theorem ayO(v a b:Nat):v%2^(a+b)≠0↔(v%2^a≠0∨v/2^a%2^b≠0):=by
 rw[bI,Nat.mod_mul];have h:0<2^a:=bL aC;constructor
 ·grind
 rintro(q|q) h1
 ·omega
 have:0<2^a*(v/2^a%2^b):=gS h (eL q);omega
theorem cmE(hk:k≤64):v%M1%2^k=v%2^k:=Nat.mod_mod_of_dvd _ (by rw[aiO];exact Nat.pow_dvd_pow 2 hk)
theorem bdT(h:v<M3):(((v/M2:Nat):Int)=0∧((v/M1%M1:Nat):Int)=0∧((v%M1:Nat):Int)=0)↔v=0:=by
 constructor
 ·rintro⟨h1,h2,h3⟩;have e1:=fV v M1;have e2:=fV (v/M1) M1;rw[bkN]at e2;have h1':v/M2=0:=by omega
  have h2':v/M1%M1=0:=by omega
  have h3':v%M1=0:=by omega
  rw[h1',h2']at e2;simp at e2;rw[←e2,h3']at e1;simpa using e1.symm
 rintro rfl;decide
theorem clH(h:v<M3):v/M1/M2=0∧v/M1/M1%M1=v/M2:=by
 have h1:v/M1<M2:=by rw[bW aC,bM,←clU];exact h
 exact⟨cD h1,by rw[bkN,bH (bkA h)]⟩
theorem lost64(v j:Nat):v%2^(64*(j+1))≠0↔(v%2^(64*j)≠0∨v/2^(64*j)%M1≠0):=by
 rw[cB,fB,ayO,aiO]
theorem caS(h:decide (v%2^(64*j)≠0)=true):true=decide (v%2^(64*(j+1))≠0):=(aU ((lost64 v j).2 (.inl (of_decide_eq_true h)))).symm
theorem caT(h:decide (v%2^(64*j)≠0)=false):decide (((0:Nat):Int)<((v/2^(64*j)%M1:Nat):Int))=decide (v%2^(64*(j+1))≠0):=by
 have h1:=of_decide_eq_false h;refine aQ.2 ⟨λq=>(lost64 v j).2 (.inr aA),λq=>?_⟩;rcases(lost64 v j).1 q with q|q
 ·grind
 omega
theorem chM(hn:a≤n)(h:decide (v%2^a≠0)=true):true=decide (v%2^n≠0):=by
 have:=(ayO v a (n-a)).2 (.inl (of_decide_eq_true h));rw[show a+(n-a)=n by omega]at this;exact(aU this).symm
theorem bwU(x k:Nat):x&&&(1*2^k-1)=x%2^k:=by rw[cQ];exact dS x k
theorem chN(hn:a≤n)(hk:n-a≤64)(h:decide (v%2^a≠0)=false):decide (((0:Nat):Int)<((v/2^a%M1&&&(1*2^(n-a)-1):Nat):Int))=decide (v%2^n≠0):=by
 have h1:=of_decide_eq_false h;have h2:=ayO v a (n-a);rw[show a+(n-a)=n by omega]at h2;rw[bwU,cmE hk];refine aQ.2 ⟨λq=>h2.2 (.inr aA),λq=>?_⟩;rcases h2.1 q with q|q
 ·grind
 omega
theorem aqP(h:k<64):1*2^k<18446744073709551616:=by
 rw[cQ,show(18446744073709551616:Nat)=2^64 by decide];exact eV aC h
theorem bnI(k:Nat):1≤1*2^k:=by rw[cQ];exact bL aC
theorem cdF(hx:x<M1):u2 x= .agg [.int .u64 0,.int .u64 (x:Int)]:=by
 unfold u2 w2;rw[cD hx,bH hx];rfl
theorem cjL(hv:v<M2):u3 v= .agg [.int .u64 0,.int .u64 ((v/M1:Nat):Int),.int .u64 ((v%M1:Nat):Int)]:=by
 unfold u3 w3;rw[cD hv,bH (bvD hv)];rfl
theorem ceK(v:Nat):w2 (v/M1%M1) (v%M1)=u2 (v%M2):=by
 unfold u2;rw[bxB,Nat.mod_mul_right_div_self,Nat.mod_mul_right_mod]
theorem clR{a b:Nat}:(a/M1+b/M1+(a%M1+b%M1)/M1)%M1=(a+b)%M2/M1:=by unfold M1 M2;omega
theorem clQ{a b:Nat}:(a%M1+b%M1)%M1=(a+b)%M2%M1:=by unfold M1 M2;omega
theorem cdB{a b:Nat}:decide (((0:Nat):Int)<(((a/M1+b/M1+(a%M1+b%M1)/M1)/M1:Nat):Int))=decide (M2≤a+b):=by
 refine aQ.2 ?_;unfold M1 M2;omega
theorem cmO:(a%M1+b%M1)/M1≤1:=by unfold M1;omega
theorem aqI(a x:Nat):a*x/M2=a/M1*x/M1+(a%M1*x/M1+a/M1*x%M1)/M1∧a*x/M1%M1=(a%M1*x/M1+a/M1*x%M1)%M1∧a*x%M1=a%M1*x%M1:=by
 have e:a*x=M1*(a/M1*x)+a%M1*x:=by
  conv=>lhs;rw[←cM a M1]
  rw[bY,bJ]
 rw[e];generalize a/M1*x=p;generalize a%M1*x=q;unfold M1 M2;refine⟨?_,?_,?_⟩<;>omega
theorem btG(h:m<9223372036854775808):(m|||9223372036854775808)=9223372036854775808+m:=by
 have:=bfW (a:=m) (b:=1) (k:=63) (by rw[show(2:Nat)^63=9223372036854775808 by decide];exact h);rw[show 1*(2:Nat)^63=9223372036854775808 by decide]at this;omega
theorem bzS(hm:m≤9007199254740991):acH m u≤anL:=by
 unfold acH anL;split
 ·omega
 split<;>omega
theorem buG{e:Int}(h:e<yC v e):
  abX v e more=(if v/2^((yC v e-e).toNat-1)%2=1∧(v%2^((yC v e-e).toNat-1)≠0∨more=true∨v/2^(yC v e-e).toNat%2=1)then v/2^(yC v e-e).toNat+1 else v/2^(yC v e-e).toNat):=by
 unfold abX;rw[aJ];rfl
theorem asD{e:Int}(h:yC v e≤e):abX v e more=v*2^(e-yC v e).toNat:=by
 unfold abX;rw[aN h]
theorem awL{e:Int}(h:e<yC v e):v/2^((yC v e-e).toNat-1)<18014398509481984:=by
 have hn:v<2^yN v:=qI.1 (aZ _);rw[bW (bL aC),show(18014398509481984:Nat)=2^54 by decide,←bI];refine bQ hn (bB aC ?_);unfold yC at *;split at h<;>omega
theorem chX(h:x<18014398509481984):x*2^63%M2/M1=x/2:=by
 have e63:(2:Nat)^63=9223372036854775808:=by decide
 rw[e63];unfold M1 M2;omega
theorem bkM(hk:1≤k):v/2^(k-1)/2=v/2^k:=by
 rw[cC,←bP,show(k-1).succ=k by omega]
theorem bcL{e:Int}(h:yC v e≤e):v*2^(e-yC v e).toNat<M1:=by
 have:=ajA v e false;rw[asD h]at this;unfold M1;omega
theorem bqK{e:Int}(h0:0<v)(h:yC v e≤e):e-yC v e≤52:=by
 have hb:0<yN v:=abO.2 (show 2^0≤v from h0);unfold yC at *;split at h<;>omega
theorem cfS(hx:x<4294967296):v*2^32%M2/M1=(v*4294967296+x)%M2/M1∧(v*2^32%M2%M1|||x)=(v*4294967296+x)%M2%M1:=by
 have e32:(2:Nat)^32=4294967296:=by decide
 have h1:v*2^32%M2%M1|||x=v*2^32%M2%M1+x:=by
  have h2:v*2^32%M2%M1=(v%4294967296)*2^32:=by
   rw[cdK,e32];unfold M1;omega
  rw[h2];exact akX (by rw[e32];exact hx)
 rw[h1,e32];unfold M1 M2;constructor<;>omega
end Go.Proofs.YteedncdcbgplfaaGreatDoor
