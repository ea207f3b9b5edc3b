import Derived.Test.YteedncdcbgplfaaGreatDoorD2
set_option maxHeartbeats 1000000
namespace Go.Proofs.YteedncdcbgplfaaGreatDoor
open Go.Proofs.Tryz
open Go Go.RowKit
variable{i k m:Nat}{ds:List UInt8}
section
set_option maxRecDepth 100000
def afQ:Nat→Nat→Nat×Nat
 |m,0=>(m,0)
 |m,k+1=>if m%2=0∧0<m then afQ (m/2) k else(m,k+1)
theorem anQ:∀(k m:Nat),(afQ m k).1≤m∧(afQ m k).2≤k
 |0,m=>⟨bB _,bB _⟩
 |k+1,m=>by
  unfold afQ;split
  ·have:=anQ k (m/2);omega
  exact⟨bB _,bB _⟩
theorem bcG(h:m%2=0)(hm:0<m)(hk:0<k):afQ m k=afQ (m/2) (k-1):=by
 obtain⟨k,rfl⟩:∃q,k=q+1:=⟨k-1,by omega⟩;rw[afQ,aN ⟨h,hm⟩];rfl
theorem awF(h:k=0∨m=0∨m%2≠0):afQ m k=(m,k):=by
 cases k with
 |zero=>rfl
 |succ k=>rw[afQ,aJ]
def ofN(neg:Bool)(m:Nat)(e:Int):Bool×List UInt8×Int:=
 if 0≤e then(mkN neg (dec (m*2^e.toNat)) 0).1 else(mkN neg (dec ((afQ m (-e).toNat).1*5^(afQ m (-e).toNat).2)) (-((afQ m (-e).toNat).2:Int))).1
def ofR(m:Nat)(e:Int):Nat:=if 0≤e then m*2^e.toNat else(afQ m (-e).toNat).1*5^(afQ m (-e).toNat).2
def ofX(m:Nat)(e:Int):Int:=if 0≤e then 0 else-((afQ m (-e).toNat).2:Int)
theorem blX(neg:Bool)(m:Nat)(e:Int):ofN neg m e=(mkN neg (dec (ofR m e)) (ofX m e)).1:=by
 unfold ofN ofR ofX;split<;>rfl
def dD(d:Bool×List UInt8×Int):AV:=dA d.1 d.2.1 d.2.2
theorem aoR(hk:k≤3300):18014398509481984*2^k<BIG:=by
 obtain⟨K,hK,hB⟩:∃K,K=8192∧BIG=2^K:=⟨32*256,rfl,boM _ rfl⟩;rw[hB,show(18014398509481984:Nat)=2^54 by decide,←dN];exact Nat.pow_lt_pow_right aC aA
theorem abT(hm:m<18014398509481984)(hk:k≤1075):m*5^k<BIG∧5^k<BIG:=by
 have h1:5^k≤2^(3*k):=by rw[eX];exact Nat.pow_le_pow_left aC k
 have h0:5^k≤18014398509481984*5^k:=Nat.le_mul_of_pos_left _ aC;have h2:18014398509481984*5^k<BIG:=bI (dV _ h1) (aoR aA);exact⟨bI (bG _ aA) h2,bI h0 h2⟩
theorem ajW(hm:m<18014398509481984)(hk:k≤972):m*2^k<BIG:=by
 exact bI (bG _ aA) (aoR aA)
theorem adO(hm:m<18014398509481984):m<BIG:=Nat.lt_trans hm (by unfold BIG;decide+kernel)
theorem bmM(h:0<m):(zK m).getD 0 0&&&1=m%2:=by
 rw[abQ h,eJ,show(1:Nat)=2^1-1 by decide,fD];omega
theorem arB:(zK m).length=0↔m=0:=by
 constructor
 ·intro h;rcases bE m with h0|h0
  ·exact h0
  have:=aiG h0;omega
 rintro rfl;rfl
theorem blV{e:Int}(hm:m<18014398509481984)(he: -1075≤e∧e≤972):ofR m e<BIG:=by
 unfold ofR;split
 ·exact ajW hm aA
 have h:=anQ (-e).toNat m;exact(abT aA aA).1
theorem axS{e:Int}(he: -1075≤e∧e≤972): -1075≤ofX m e∧ofX m e≤0:=by
 unfold ofX;have h:=anQ (-e).toNat m;split<;>omega
theorem shlZ(a s:Nat)(q:Int)(hq:q=(s:Int))(h:a*2^s<BIG)(hs:s<1000000000):Fn 168 [qE a,.int .i64 q] (.tuple [qE (a*2^s),.int .i64 0]):=by
 intro H;subst hq;exact shlB a s h hs H
theorem powZ(b n:Nat)(q:Int)(hq:q=(n:Int))(hb:2≤b)(hb2:b≤1000000)(hn2:n<1000000000)(h:b^n<BIG):Fn 170 [.int .i64 (b:Int),.int .i64 q] (.tuple [qE (b^n),.int .i64 0]):=by
 intro H;subst hq;exact ayY b n hb hb2 hn2 h H
theorem bvY(neg:Bool)(e:Int):(mkN neg (dec 0) e).1=(neg,[],0):=by
 unfold mkN;rw[aN (show abX (dec 0)=[] by rw[ahY aC];rfl)]
def bxK(neg:Bool)(m0 k0 b:Nat)(H:Heap):Nat→Env→Heap→Prop:=λk env H1=>∃m k1:Nat,m<18014398509481984∧k1≤1075∧afQ m k1=afQ m0 k0∧env=[(0,.bool neg),(1,qE m),(2,.int .i64 (-(k1:Int))),(6,.ptr (some ⟨b,0,none⟩))]∧H1=H.set b (.box 61 [.bool false,.str [],.int .i64 0])∧k=k1
theorem aoK(neg:Bool)(m:Nat)(e:Int)(hm:m<18014398509481984)(he: -1075≤e∧e≤972):Fn 92 [.bool neg,qE m,.int .i64 e] (dD (ofN neg m e)):=by
 intro H;have hmB:=adO hm;refine .of_body func92 rfl ntmps92 results92 rfl ?_;iterate 2 refine AX ?_
 refine .al zr61 (λb6 hb6=>?_);iterate 7 refine AX ?_
 refine .seqToL [(1,qE (ofR m e)),(7,.int .i64 (ofX m e))] [0,6] ?_ ?_
 ·iterate 6 refine AX ?_
  refine .cx rfl (λhc13=>?_) (λhc13=>?_)
  ·iterate 3 refine AX ?_
   refine .cl rfl C168 (evs2 rfl rfl) (shlZ m e.toNat e aA (ajW hm aA) aA _) ?_;iterate 5 refine AX ?_
   exact⟨rfl,(zU rfl (by(unfold ofR;rw[aK];done)) (zU rfl (by(unfold ofX;rw[aK];done)) sX)),rfl⟩
  have hen:e= -(((-e).toNat:Nat):Int):=by omega
  iterate 2 refine AX ?_
  refine .loopW (bxK neg m (-e).toNat b6 H) ((-e).toNat) ⟨m,(-e).toNat,hm,by omega,rfl,rfl,rfl,rfl⟩ (zF rfl (zF rfl (zU rfl (by rw[←hen]) (zF rfl zW)))) (hRa _) ?_;rintro _ _ _ ⟨m1,k1,hm1,hk1,hst,rfl,rfl,hk⟩;have hg0:=Limbs.getD (zL m1) 0;refine AX ?_;refine .seqTo 33 (.bool (decide (-(k1:Int)<0)&&decide ((0:Int)<((zK m1).length:Int))&&decide (((((zK m1).getD 0 0&&&1:Nat)):Int)=((0:Nat):Int)))) [0,1,2,6] ?_ ?_
  ·iterate 4 refine AX ?_
   refine zC (t:=22) rfl (λhg22=>?_) (λhg22=>?_)
   ·have hh22:=hg22;try simp only[aW]at hh22
    iterate 5 refine AX ?_
    refine zC (t:=27) rfl (λhg27=>?_) (λhg27=>?_)
    ·have hh27:=hg27;try simp only[aW]at hh27
     refine AX ?_;refine .gp rfl rfl rfl aB (yL (0) U159 Z210 (tm rfl) zJ aA aA) ?_;refine AX ?_;refine .gp rfl rfl rfl aB (aiF (tm rfl) (yT 1) aB aA) ?_;iterate 3 refine AM ?_
     exact⟨rfl,zO rfl (by(rw[show decide (-(k1:Int)<0)=_ from hg22,show decide ((0:Int)<((zK m1).length:Int))=_ from hg27];rfl)) sX,rfl⟩
    have hh27:=hg27;try simp only[aT,cF]at hh27
    iterate 7 refine AX ?_
    exact⟨rfl,zO rfl (by(rw[show decide (-(k1:Int)<0)=_ from hg22,show decide ((0:Int)<((zK m1).length:Int))=_ from hg27];rfl)) sX,rfl⟩
   have hh22:=hg22;try simp only[aT,cF]at hh22
   iterate 12 refine AX ?_
   exact⟨rfl,zO rfl (by(rw[show decide (-(k1:Int)<0)=_ from hg22];rfl)) sX,rfl⟩
  refine .sub [(33,_),(0,_),(1,_),(2,_),(6,_)] sX ?_;refine .cx rfl (λhc33=>?_) (λhc33=>?_)
  ·simp only[bD,aW]at hc33;obtain⟨⟨hk0,hl0⟩,hb0⟩:=hc33;have hm0:0<m1:=by rcases bE m1 with h|h;rw[h]at hl0;exact absurd hl0 aC;exact h
   rw[bmM hm0]at hb0;have hst2:=bcG (m:=m1) (k:=k1) aA hm0 aA;iterate 6 refine AX ?_
   refine .cl rfl call169 (.cons (tm rfl) (.cons zJ .nil)) (shrB m1 1 (adO hm1) aC _) ?_;iterate 14 refine AX ?_
   refine Round.mk ⟨m1/2,k1-1,by omega,by omega,by rw[←hst2];exact hst,rfl,rfl,rfl⟩ (zF rfl (zU rfl (by rw[Nat.pow_one]) (zU rfl (by congr 1;omega) (zF rfl zW)))) (hRa _) aA
  simp only[cA,aT]at hc33;have hse:afQ m1 k1=(m1,k1):=awF (by
    rcases bE m1 with h|h
    ·exact .inr (.inl h)
    have hnl:=aiG h;rw[bmM h]at hc33;omega)
  rw[hst]at hse;iterate 9 refine AX ?_
  refine .cl rfl call170 (.cons zJ (evs1 rfl)) (powZ 5 k1 _ aA aC aC aA (abT hm1 hk1).2 _) ?_;iterate 11 refine AX ?_
  refine .cl rfl C106 (evs2 rfl rfl) (mulB m1 (5^k1) (adO hm1) (abT hm1 hk1).2 (abT hm1 hk1).1 _) ?_;iterate 10 refine AX ?_
  exact⟨rfl,(zU rfl (by(unfold ofR;rw[aJ,hse];done)) (zU rfl (by(unfold ofX;rw[aJ,hse];done)) sX)),rfl⟩
 refine .sub [(1,_),(7,_),(0,_),(6,_)] sX ?_;have hRB:=blV hm he;have hX:=axS (m:=m) he;iterate 4 refine AX ?_
 refine .cl rfl call109 (evs1 rfl) (anE (ofR m e) hRB _) ?_;refine AX ?_;refine .cl rfl call71 (evs3 rfl rfl rfl) (amK neg (dec (ofR m e)) (ofX m e) (akV _) (bH (aqM hRB) aC) aA _) ?_;iterate 3 refine AX ?_
 refine .al zr61 (λb10 hb10=>?_);have hn6_10:=Heap.ne_of (oS _ _ _) hb10;iterate 4 refine AX ?_
 refine .frz (t:=10) rfl (hb10) ?_;iterate 6 refine AX ?_
 refine .frz (t:=6) rfl (hb6) ?_;iterate 2 refine AX ?_
 refine⟨?_,rfl⟩;rw[blX];rfl
def agF(x:Nat):(Bool×List UInt8×Int)×Int:=if 3≤yZ x then((false,[],0),11)else(ofN (ahQ x) (zT x) (zH x),0)
def anR(x n:Nat):(Bool×List UInt8×Int)×Int:=if 3≤yZ x then((false,[],0),11)else boR (agF x).1.1 (agF x).1.2.1 (agF x).1.2.2 n
theorem akH(neg:Bool)(m:Nat)(e:Int):yN (ofN neg m e).2.1 (ofN neg m e).2.2=true:=by
 rw[blX];exact anZ (akV _)
theorem beL(x:Nat):(agF x).2=if 3≤yZ x then 11 else 0:=by unfold agF;split<;>rfl
theorem acO(x:Nat):yN (agF x).1.2.1 (agF x).1.2.2=true:=by
 unfold agF;split
 ·rfl
 exact akH _ _ _
theorem arK(x:Nat)(hx:x<18446744073709551616):Fn 38 [.int .u64 (x:Int)] (dT (agF x)):=by
 intro H;have hpm:=agP x;have hpe:=acE x;refine .of_body func38 rfl ntmps38 results38 rfl ?_;iterate 2 refine AX ?_
 refine .al zr61 (λb2 hb2=>?_);iterate 7 refine AX ?_
 refine .cl rfl C31 (evs1 rfl) (aeM x hx _) ?_;iterate 3 refine AX ?_
 refine .cx rfl (λhc9=>?_) (λhc9=>?_)
 ·iterate 2 refine AX ?_
  refine .p rfl (qU zr61 pl61 .nil rfl) ?_;iterate 4 refine AX ?_
  refine .frz (t:=2) rfl (hb2) ?_;iterate 3 refine AX ?_
  refine⟨?_,rfl⟩;unfold agF;rw[aK];rfl
 iterate 5 refine AX ?_
 refine .cl rfl call91 (evs1 rfl) (aqT x hx _) ?_;iterate 13 refine AX ?_
 refine .cl rfl C93 (evs1 rfl) (aeG (zT x) aA _) ?_;refine AX ?_;refine .cl rfl call92 (evs3 rfl rfl rfl) (aoK (ahQ x) (zT x) (zH x) aA hpe _) ?_;iterate 4 refine AX ?_
 refine .frz (t:=2) rfl (hb2) ?_;iterate 2 refine AX ?_
 refine⟨?_,rfl⟩;unfold agF;rw[aJ];rfl
theorem beX(x:Nat)(hx:x<18446744073709551616)(n:Nat)(hn:0<n)(hn2:n≤100000):Fn 87 [.int .u64 (x:Int),.int .i64 (n:Int),.int .i64 1] (dT (anR x n)):=by
 intro H;refine .of_body func87 rfl ntmps87 results87 rfl ?_;iterate 2 refine AX ?_
 refine .al zr61 (λb6 hb6=>?_);iterate 6 refine AX ?_
 refine .cl rfl call38 (evs1 rfl) (arK x hx _) ?_;iterate 3 refine AX ?_
 refine .al zr61 (λb8 hb8=>?_);have hn6_8:=Heap.ne_of (oS _ _ _) hb8;iterate 4 refine AX ?_
 refine .frz (t:=8) rfl (hb8) ?_;iterate 7 refine AX ?_
 refine .cx rfl (λhc16=>?_) (λhc16=>?_)
 ·have hk3:3≤yZ x:=by rcases bV (yZ x) 3 with h|h;exact absurd (show(agF x).2=0 by unfold agF;rw[aJ]) aB;exact h
  iterate 8 refine AX ?_
  refine .frz (t:=6) rfl (hb6) ?_;iterate 3 refine AX ?_
  refine⟨?_,rfl⟩;unfold anR;rw[aN hk3];rw[show agF x=((false,[],0),11) by unfold agF;rw[aN hk3]];rfl
 have hk3:¬3≤yZ x:=λh=>by rw[beL,aN h]at hc16;exact absurd hc16 aC
 iterate 7 refine AX ?_
 refine .cl rfl call164 (evs3 rfl rfl rfl) (boF _ _ _ n (acO x) hn hn2 _) ?_;iterate 6 refine AX ?_
 refine .frz (t:=6) rfl (hb6) ?_;iterate 2 refine AX ?_
 refine⟨?_,rfl⟩;unfold anR;rw[aM hk3];rfl
def bsS(neg:Bool)(m0 k0 b:Nat)(H:Heap):Nat→Env→Heap→Prop:=λk env H1=>∃m k1:Nat,m<18014398509481984∧k1≤1075∧afQ m k1=afQ m0 k0∧env=[(0,.bool neg),(1,qE m),(2,.int .i64 (-(k1:Int))),(6,.ptr (some ⟨b,0,none⟩))]∧H1=H.set b (.box 61 [.bool false,.str [],.int .i64 0])∧k=k1
theorem alO(neg:Bool)(m:Nat)(e:Int)(hm:m<18014398509481984)(he: -1075≤e∧e≤972):Fn 115 [.bool neg,qE m,.int .i64 e] (dD (ofN neg m e)):=by
 intro H;have hmB:=adO hm;have hRB:=blV hm he;have hX:=axS (m:=m) he;have hml:=yM hmB;have hrl:=yM hRB;refine .of_body func115 rfl ntmps115 results115 rfl ?_;iterate 2 refine AX ?_
 refine .al zr61 (λb6 hb6=>?_);iterate 9 refine AX ?_
 refine .cx rfl (λhc12=>?_) (λhc12=>?_)
 ·have hR2:m*2^e.toNat<BIG:=ajW hm aA;iterate 5 refine AX ?_
  refine .cl rfl call81 (evs2 rfl rfl) (axI (zK m) .shared (zL m) aA e.toNat aA e aA (by rw[zR];exact ajW hm aA) _) ?_;simp only[zR];refine .cl rfl C126 (evs1 rfl) (aeB (zK (m*2^e.toNat)) .shared (zL _) (by have:=yM hR2;omega) (by rw[zR];exact hR2) _) ?_;simp only[zR];refine .cl rfl C22 (.cons (tm rfl) (.cons (tm rfl) (.cons zJ .nil))) (aeU neg (dec (m*2^e.toNat)) 0 (akV _) (bH (aqM hR2) aC) aC _) ?_;iterate 3 refine AX ?_
  refine .al zr61 (λb7 hb7=>?_);have hn6_7:=Heap.ne_of (oS _ _ _) hb7;iterate 4 refine AX ?_
  refine .frz (t:=7) rfl (hb7) ?_;iterate 6 refine AX ?_
  refine .frz (t:=6) rfl (hb6) ?_;iterate 3 refine AX ?_
  refine⟨?_,rfl⟩;unfold ofN;rw[aK];rfl
 have hen:e= -(((-e).toNat:Nat):Int):=by omega
 iterate 4 refine AX ?_
 refine .loopW (bsS neg m (-e).toNat b6 H) ((-e).toNat) ⟨m,(-e).toNat,hm,by omega,rfl,rfl,rfl,rfl⟩ (zF rfl (zF rfl (zU rfl (by rw[←hen]) (zF rfl zW)))) (hRa _) ?_;rintro _ _ _ ⟨m1,k1,hm1,hk1,hst,rfl,rfl,hk⟩;have hm1l:=yM (adO hm1);refine AX ?_;refine .seqTo 34 (.bool (decide (-(k1:Int)<0)&& !decide (((m1%2:Nat):Int)=1)&&decide ((0:Int)<((zK m1).length:Int)))) [0,1,2,6] ?_ ?_
 ·iterate 4 refine AX ?_
  refine zC (t:=25) rfl (λhg25=>?_) (λhg25=>?_)
  ·have hh25:=hg25;try simp only[aW]at hh25
   refine AX ?_;refine .gs rfl rfl rfl aB (zD call156 (.cons (tm rfl) (.cons zJ .nil)) (alV (zK m1) .shared (zL m1) aA 0 aC 0 rfl _)) ?_;rintro _ _ ⟨rfl,hH⟩;obtain rfl:=hH.symm;rw[zR,Nat.pow_zero,Nat.div_one];iterate 3 refine AX ?_
   refine zC (t:=30) rfl (λhg30=>?_) (λhg30=>?_)
   ·have hh30:=hg30;try simp only[aT,fM]at hh30
    iterate 5 refine AX ?_
    exact⟨rfl,zO rfl (by(rw[show decide (-(k1:Int)<0)=_ from hg25,show(!decide (((m1%2:Nat):Int)=1))=_ from hg30];rfl)) sX,rfl⟩
   have hh30:=hg30;try simp only[aW,Bool.not_eq_false']at hh30
   iterate 5 refine AX ?_
   exact⟨rfl,zO rfl (by(rw[show decide (-(k1:Int)<0)=_ from hg25,show(!decide (((m1%2:Nat):Int)=1))=_ from hg30];rfl)) sX,rfl⟩
  have hh25:=hg25;try simp only[aT,cF]at hh25
  iterate 10 refine AX ?_
  exact⟨rfl,zO rfl (by(rw[show decide (-(k1:Int)<0)=_ from hg25];rfl)) sX,rfl⟩
 refine .sub [(34,_),(0,_),(1,_),(2,_),(6,_)] sX ?_;refine .cx rfl (λhc34=>?_) (λhc34=>?_)
 ·simp only[bD,fM,aW,aT]at hc34;obtain⟨⟨hk0,hb0⟩,hl0⟩:=hc34;have hm0:0<m1:=by rcases bE m1 with h|h;rw[h]at hl0;exact absurd hl0 aC;exact h
  have hst2:=bcG (m:=m1) (k:=k1) aA hm0 aA;iterate 6 refine AX ?_
  refine .e rfl (yP U135 Z210 V210 rfl (yT 2) (.inl rfl) ⟨rfl,rfl⟩) (.cl rfl call80 (evs2 rfl rfl) (amW (zK m1) .shared (zL m1) aA [2] .full (Limbs.mk aC Limbs.nil) aC aC _) ?_);rw[zR,show val [2]=2 from rfl];iterate 13 refine AX ?_
  refine Round.mk ⟨m1/2,k1-1,by omega,by omega,by rw[←hst2];exact hst,rfl,rfl,rfl⟩ (zF rfl (zF rfl (zU rfl (by congr 1;omega) (zF rfl zW)))) (hRa _) aA
 simp only[cA,Bool.not_eq_false',aW,aT]at hc34;have hse:afQ m1 k1=(m1,k1):=awF (by
   rcases bE m1 with h|h
   ·exact .inr (.inl h)
   have hnl:=aiG h;omega)
 rw[hst]at hse;iterate 13 refine AX ?_
 refine .cx rfl (λhc45=>?_) (λhc45=>?_)
 ·iterate 3 refine AX ?_
  refine .p rfl (qU zr61 pl61 (.cons (tm rfl) (.inl rfl) .nil) rfl) ?_;iterate 3 refine AX ?_
  refine .frz (t:=6) rfl (hb6) ?_;iterate 3 refine AX ?_
  refine⟨?_,rfl⟩;have hm10:m1=0:=arB.1 aA;unfold ofN;rw[aJ,hse,hm10,cU,bvY];rfl
 iterate 8 refine AX ?_
 refine .cl rfl call205 (evs1 rfl) (axA k1 aA _ aA (abT hm1 hk1).2 _) ?_;refine .cl rfl C77 (evs2 rfl rfl) (adR (zK m1) .shared (zL m1) aA (zK (5^k1)) .shared (zL _) (by have:=yM (abT hm1 hk1).2;omega) _) ?_;simp only[zR];refine .cl rfl C126 (evs1 rfl) (aeB (zK (m1*5^k1)) .shared (zL _) (by have:=yM (abT hm1 hk1).1;omega) (by rw[zR];exact(abT hm1 hk1).1) _) ?_;simp only[zR];refine AX ?_;refine .cl rfl C22 (evs3 rfl rfl rfl) (aeU neg (dec (m1*5^k1)) (-(k1:Int)) (akV _) (bH (aqM (abT hm1 hk1).1) aC) aA _) ?_;iterate 3 refine AX ?_
 refine .al zr61 (λb9 hb9=>?_);have hn6_9:=Heap.ne_of (oS _ _ _) hb9;iterate 4 refine AX ?_
 refine .frz (t:=9) rfl (hb9) ?_;iterate 6 refine AX ?_
 refine .frz (t:=6) rfl (hb6) ?_;iterate 2 refine AX ?_
 refine⟨?_,rfl⟩;unfold ofN;rw[aJ,hse];rfl
theorem ajZ(x:Nat)(hx:x<18446744073709551616):Fn 113 [.int .u64 (x:Int)] (.bool (decide ((yZ x:Int)<3))):=by
 intro H;refine .of_body func113 rfl ntmps113 results113 rfl ?_;iterate 8 refine AX ?_
 refine .cl rfl C17 (evs1 rfl) (abE x hx _) ?_;iterate 6 refine AX ?_
 exact⟨rfl,rfl⟩
theorem aoU(x:Nat)(hx:x<18446744073709551616):Fn 47 [.int .u64 (x:Int)] (dT (agF x)):=by
 intro H;have hpm:=agP x;have hpe:=acE x;refine .of_body func47 rfl ntmps47 results47 rfl ?_;iterate 2 refine AX ?_
 refine .al zr61 (λb2 hb2=>?_);iterate 6 refine AX ?_
 refine .cl rfl call113 (evs1 rfl) (ajZ x hx _) ?_;iterate 10 refine AX ?_
 refine .cx rfl (λhc11=>?_) (λhc11=>?_)
 ·iterate 2 refine AX ?_
  refine .p rfl (qU zr61 pl61 .nil rfl) ?_;iterate 4 refine AX ?_
  refine .frz (t:=2) rfl (hb2) ?_;iterate 3 refine AX ?_
  refine⟨?_,rfl⟩;unfold agF;rw[aK];rfl
 iterate 5 refine AX ?_
 refine .cl rfl call114 (evs1 rfl) (amV x hx _) ?_;iterate 13 refine AX ?_
 refine .cl rfl C116 (evs1 rfl) (adA (zT x) aA _) ?_;refine AX ?_;refine .cl rfl call115 (evs3 rfl rfl rfl) (alO (ahQ x) (zT x) (zH x) aA hpe _) ?_;iterate 4 refine AX ?_
 refine .frz (t:=2) rfl (hb2) ?_;iterate 2 refine AX ?_
 refine⟨?_,rfl⟩;unfold agF;rw[aJ];rfl
theorem baA(x:Nat)(hx:x<18446744073709551616)(n:Nat)(hn:0<n)(hn2:n≤100000):Fn 110 [.int .u64 (x:Int),.int .i64 (n:Int),.int .i64 1] (dT (anR x n)):=by
 intro H;refine .of_body func110 rfl ntmps110 results110 rfl ?_;iterate 2 refine AX ?_
 refine .al zr61 (λb6 hb6=>?_);iterate 6 refine AX ?_
 refine .cl rfl call47 (evs1 rfl) (aoU x hx _) ?_;iterate 3 refine AX ?_
 refine .al zr61 (λb8 hb8=>?_);have hn6_8:=Heap.ne_of (oS _ _ _) hb8;iterate 4 refine AX ?_
 refine .frz (t:=8) rfl (hb8) ?_;iterate 7 refine AX ?_
 refine .cx rfl (λhc16=>?_) (λhc16=>?_)
 ·have hk3:3≤yZ x:=by rcases bV (yZ x) 3 with h|h;exact absurd (show(agF x).2=0 by unfold agF;rw[aJ]) aB;exact h
  iterate 8 refine AX ?_
  refine .frz (t:=6) rfl (hb6) ?_;iterate 3 refine AX ?_
  refine⟨?_,rfl⟩;unfold anR;rw[aN hk3];rw[show agF x=((false,[],0),11) by unfold agF;rw[aN hk3]];rfl
 have hk3:¬3≤yZ x:=λh=>by rw[beL,aN h]at hc16;exact absurd hc16 aC
 iterate 7 refine AX ?_
 refine .cl rfl call202 (evs3 rfl rfl rfl) (bfU _ _ _ n (acO x) hn hn2 _) ?_;iterate 6 refine AX ?_
 refine .frz (t:=6) rfl (hb6) ?_;iterate 2 refine AX ?_
 refine⟨?_,rfl⟩;unfold anR;rw[aM hk3];rfl
end
section
open Go Go.RowKit
set_option maxRecDepth 100000
structure Loc where
 name:List UInt8
 dc:List UInt8
 grp:List UInt8
 lst:List UInt8
 minus:List UInt8
 pct:List UInt8
 cur:List UInt8
 first:Bool
 space:Bool
 second:Nat
def pL(l:Loc)(sz:AV):AV:=.agg [.str l.name,.str l.dc,.str l.grp,.str l.lst,.str l.minus,.str l.pct,.str l.cur,.bool l.first,.bool l.space,sz]
def rL(l:Loc):AV:=.agg [.str l.name,.str l.dc,.str l.grp,.str l.lst,.str l.minus,.str l.pct,.str l.cur,.bool l.first,.bool l.space,.int .i64 (l.second:Int)]
def Loc.ok(l:Loc):Prop:=l.dc.length≤10∧l.grp.length≤10∧l.minus.length≤10∧l.cur.length≤10∧l.pct.length≤10
def aaM(ds:List UInt8)(p:Int):(List UInt8×List UInt8)×Bool:=
 if 400<p∨400<(ds.length:Int)-p then(([],[]),false)
 else if p≤0 then(([48],List.replicate (-p).toNat 48++ds),true)
 else if(ds.length:Int)≤p then((ds++List.replicate (p-ds.length).toNat 48,[]),true)
 else((ds.take p.toNat,ds.drop p.toNat),true)
def afE(l:Loc)(neg:Bool)(ds:List UInt8)(p:Int):List UInt8:=
 if(aaM ds p).2=true then(if neg=true then l.minus else [])++((aaM ds p).1.1++(if(aaM ds p).1.2=[]then []else l.dc++(aaM ds p).1.2))else []
theorem aoS{p:Int}(hl:ds.length≤1100):(aaM ds p).1.1.length≤2000∧(aaM ds p).1.2.length≤2000:=by
 unfold aaM;split
 ·simp
 split
 ·simp only[aR,bA,aX,aY];omega
 split
 ·simp only[aR,bA,aY];omega
 simp only[aU,bC];omega
theorem avY{l:Loc}{neg:Bool}{p:Int}(hl:ds.length≤1100)(hk:l.ok):(afE l neg ds p).length≤5000:=by
 have h:=aoS (p:=p) hl;obtain⟨h1,h2,h3,h4,h5⟩:=hk;unfold afE;split
 ·simp only[aR];have a1:(if neg=true then l.minus else []).length≤10:=by split<;>first|omega|(simp;done)|(simp;omega)
  have a2:(if(aaM ds p).1.2=[]then []else l.dc++(aaM ds p).1.2).length≤2010:=by split<;>first|omega|(simp;done)|(simp;omega)
  omega
 simp
theorem qQ{e:Int}(h:yN ds e=true):yF ds e=(ds.length:Int)+e:=by unfold yF;rw[aN h]
theorem azR(neg:Bool)(ds:List UInt8)(e:Int)(hr:yN ds e=true):Fn 165 [dA neg ds e] (.tuple [.str (aaM ds ((ds.length:Int)+e)).1.1,.str (aaM ds ((ds.length:Int)+e)).1.2,.bool (aaM ds ((ds.length:Int)+e)).2]):=by
 intro H;have hpd:=qQ hr;have hrl:=yO hr;have hdd:=qK hr;have hml:=zN;generalize hpp:(ds.length:Int)+e=p at *;refine .of_body func165 rfl ntmps165 results165 rfl ?_;iterate 9 refine AX ?_
 refine .draw [(0,true),(2,true),(3,true),(4,true),(1,false),(5,true),(6,true)] rfl aE ?_;refine AX ?_;refine .p rfl rfl (zA U61 rfl Z9 (tm rfl)) ?_;iterate 2 refine AX ?_
 refine .s rfl rfl (zD C88 (evs1 rfl) (adJ neg ds e hdd _)) ?_;rintro _ _ ⟨rfl,hH⟩;obtain rfl:=hH.symm;rw[hpd];iterate 13 refine AX ?_
 refine .cx rfl (λhc12=>?_) (λhc12=>?_)
 ·iterate 11 refine AX ?_
  refine⟨?_,rfl⟩;unfold aaM;have hn0:ds=[]:=cG.1 aA;have he0:p=0:=by rw[hn0]at hpp;have he:=hr;rw[hn0]at he;unfold yN at he;rw[aN rfl]at he;have:=of_decide_eq_true he;simp only[aY]at hpp;omega
  rw[hn0,he0];rfl
 refine .seqTo 15 (.bool (decide ((400:Int)<p)||decide ((400:Int)<(ds.length:Int)-p))) [1,2,3,4,5,6] ?_ ?_
 ·iterate 4 refine AX ?_
  refine zC (t:=18) rfl (λhg18=>?_) (λhg18=>?_)
  ·have hh18:=hg18;try simp only[aW]at hh18
   iterate 7 refine AX ?_
   exact⟨rfl,zO rfl (by(rw[show decide ((400:Int)<p)=_ from hg18];rfl)) sX,rfl⟩
  have hh18:=hg18;try simp only[aT,cF]at hh18
  iterate 7 refine AX ?_
  exact⟨rfl,zO rfl (by(rw[show decide ((400:Int)<p)=_ from hg18];rfl)) sX,rfl⟩
 refine .sub [(15,_),(1,_),(2,_),(3,_),(4,_),(5,_),(6,_)] sX ?_;refine .cx rfl (λhc15=>?_) (λhc15=>?_)
 ·simp only[dK,aW]at hc15;iterate 11 refine AX ?_
  refine⟨?_,rfl⟩;unfold aaM;rw[aN hc15];rfl
 simp only[cT,aT]at hc15;iterate 7 refine AX ?_
 refine .cx rfl (λhc24=>?_) (λhc24=>?_)
 ·refine AX ?_;refine .draw [(0,true),(1,true),(3,true),(4,true),(2,false),(5,true),(6,true),(7,true),(8,true)] rfl aE ?_;iterate 2 refine AX ?_
  refine .p rfl rfl (zA U61 rfl Z9 (tm rfl)) ?_;refine AX ?_;refine .s rfl rfl (zD C103 (.cons (zS rfl) (evs1 rfl)) (repeatZ 48 _ (-p).toNat aA aA _)) ?_;rintro _ _ ⟨rfl,hH⟩;obtain rfl:=hH.symm;refine .p rfl rfl (zQ (tm rfl) (tm rfl) (by rw[zN,bA];omega)) ?_;iterate 9 refine AX ?_
  refine⟨?_,rfl⟩;unfold aaM;rw[aJ,aK];rfl
 iterate 8 refine AX ?_
 refine .cx rfl (λhc33=>?_) (λhc33=>?_)
 ·refine AX ?_;refine .draw [(0,true),(1,true),(2,true),(3,true),(4,true),(5,false),(6,true),(7,true),(8,true),(9,true)] rfl aE ?_;refine .p rfl rfl (zA U61 rfl Z9 (tm rfl)) ?_;iterate 4 refine AX ?_
  refine .s rfl rfl (zD C103 (.cons (zS rfl) (evs1 rfl)) (repeatZ 48 _ (p-ds.length).toNat aA aA _)) ?_;rintro _ _ ⟨rfl,hH⟩;obtain rfl:=hH.symm;refine .p rfl rfl (zQ (tm rfl) (tm rfl) (by rw[zN,bA];omega)) ?_;iterate 9 refine AX ?_
  refine⟨?_,rfl⟩;unfold aaM;rw[aJ,aJ,aK];rfl
 iterate 4 refine AX ?_
 refine .draw [(0,true),(1,true),(2,true),(3,true),(4,true),(5,true),(6,true),(7,true),(8,true),(9,true),(10,true)] rfl aE ?_;refine .p rfl rfl (zA U61 rfl Z9 (tm rfl)) ?_;iterate 3 refine AX ?_
 refine .p rfl rfl (zA U61 rfl Z9 (tm rfl)) ?_;iterate 10 refine AX ?_
 refine⟨?_,rfl⟩;unfold aaM;rw[aJ,aJ,aJ];rfl
theorem aqS(l:Loc)(hk:l.ok)(sz:AV)(neg:Bool)(ds:List UInt8)(e:Int)(hr:yN ds e=true):Fn 89 [pL l sz,dA neg ds e,.bool false] (.str (afE l neg ds ((ds.length:Int)+e))):=by
 intro H;have hsl:=aoS (ds:=ds) (p:=(ds.length:Int)+e) (yO hr).1;have hml:=zN;have hdd:=qK hr;obtain⟨hk1,hk2,hk3,hk4,hk5⟩:=hk;generalize hsv:aaM ds ((ds.length:Int)+e)=sv at *;obtain⟨⟨w,r⟩,ok⟩:=sv;obtain⟨hsl1,hsl2⟩:=hsl;simp only[]at hsl1 hsl2;refine .of_body func89 rfl ntmps89 results89 rfl ?_;iterate 10 refine AX ?_
 refine .cl rfl call165 (evs1 rfl) (azR neg ds e hr _) ?_;rw[hsv]
 dsimp only
 iterate 10 refine AX ?_
 refine .seqTo 22 (.bool (!ok)) [2,3,4,6,7,8] ?_ ?_
 ·iterate 4 refine AX ?_
  refine zC (t:=18) rfl (λhg18=>?_) (λhg18=>?_)
  ·have hh18:=hg18;try simp only[fM]at hh18
   iterate 5 refine AX ?_
   exact⟨rfl,zO rfl (by(cases ok<;>first|rfl|(simp at hg18))) sX,rfl⟩
  have hh18:=hg18;try simp only[Bool.not_eq_false']at hh18
  refine AX ?_;refine .gs rfl rfl rfl aB (zD C152 (evs1 rfl) (aeZ neg ds e hdd _)) ?_;rintro _ _ ⟨rfl,hH⟩;obtain rfl:=hH.symm;rw[hr];iterate 3 refine AX ?_
  exact⟨rfl,zO rfl (by(cases ok<;>first|rfl|(simp at hg18))) sX,rfl⟩
 refine .sub [(22,_),(2,_),(3,_),(4,_),(6,_),(7,_),(8,_)] sX ?_;refine .cx rfl (λhc22=>?_) (λhc22=>?_)
 ·iterate 8 refine AX ?_
  refine⟨?_,rfl⟩;unfold afE;rw[hsv];simp only[];rw[aM (show¬ok=true by simpa using hc22)];rfl
 iterate 8 refine AX ?_
 refine .cond_false (tm rfl) aD ?_;iterate 2 refine AX ?_
 refine .seqToL [(7,.str ((if neg=true then l.minus else [])++w))] [3,6,8] ?_ ?_
 ·iterate 2 refine AX ?_
  refine .p rfl (zA U61 rfl Z4 (tm rfl)) ?_;iterate 3 refine AX ?_
  refine .cx rfl (λhc28=>?_) (λhc28=>?_)
  ·refine AX ?_;refine .p rfl (zA U32 rfl Z9 (tm rfl)) ?_;iterate 2 refine AX ?_
   refine .p rfl (zQ (tm rfl) (tm rfl) (by rw[zN];omega)) ?_;iterate 2 refine AX ?_
   exact⟨rfl,(zU rfl (by(rw[aN aB];done)) sX),rfl⟩
  refine AX ?_;exact⟨rfl,(zU rfl (by(rw[aM (by(rw[hc28];decide))];rfl)) sX),rfl⟩
 refine .sub [(7,_),(3,_),(6,_),(8,_)] sX ?_;have hmw:(if neg=true then l.minus else []).length≤10:=by split<;>first|omega|(simp;done)|(simp;omega)
 iterate 7 refine AX ?_
 refine .cx rfl (λhc34=>?_) (λhc34=>?_)
 ·iterate 2 refine AX ?_
  refine .p rfl (zA U32 rfl Z9 (tm rfl)) ?_;iterate 2 refine AX ?_
  refine .p rfl (zQ (tm rfl) (tm rfl) (by rw[zN];omega)) (.p rfl (zQ (tm rfl) (tm rfl) (by simp only[zN,aR];first|omega|(split<;>first|omega|(simp;done)|(simp;omega)))) ?_);iterate 11 refine AX ?_
  refine⟨?_,rfl⟩;unfold afE;rw[hsv];simp only[];rw[aN (show ok=true by simpa using hc22),aM (show¬r=[] by simpa using hc34),bF];rfl
 iterate 10 refine AX ?_
 refine⟨?_,rfl⟩;unfold afE;rw[hsv];simp only[];rw[aN (show ok=true by simpa using hc22),aN (show r=[] by simpa using hc34),bJ];rfl
end
section
open Go Go.RowKit
set_option maxRecDepth 100000
def aeO(ds:List UInt8)(i:Nat):List UInt8:=ds.take i++List.replicate (i-ds.length) 48
theorem azK(h:i<ds.length):aeO ds i++[ds.getD i 0]=aeO ds (i+1):=by
 unfold aeO;rw[show i-ds.length=0 by omega,show i+1-ds.length=0 by omega,List.replicate_zero,bJ,bJ,←bP h,aS,aV h];rfl
theorem azL(h:ds.length≤i):aeO ds i++[48]=aeO ds (i+1):=by
 unfold aeO;rw[aZ h,aZ aA,show i+1-ds.length=(i-ds.length)+1 by omega,List.replicate_succ',bF]
theorem ahZ(ds:List UInt8)(i:Nat):(aeO ds i).length=i:=by
 unfold aeO;simp only[aR,aU,bA];omega
def anI(ds:List UInt8)(m q j:Nat):List UInt8:=List.replicate (min j m) 48++(ds.drop q).take (j-m)
theorem bfP{q j:Nat}(h:j<m):anI ds m q j++[48]=anI ds m q (j+1):=by
 unfold anI;rw[show j-m=0 by omega,show j+1-m=0 by omega,dX,bJ,bJ,cQ aA,cQ aA,List.replicate_succ']
theorem bfQ{q j:Nat}(h:m≤j)(hi:i=q+(j-m))(hl:i<ds.length):anI ds m q j++[ds.getD i 0]=anI ds m q (j+1):=by
 unfold anI;have hd:j-m<(ds.drop q).length:=by rw[bC];omega
 rw[Nat.min_eq_right h,Nat.min_eq_right aA,show j+1-m=(j-m)+1 by omega,←bP hd,←bF,List.getElem_drop,aS,aV hl];congr 2;show ds[i]=ds[q+(j-m)];congr 1
theorem axB(ds:List UInt8)(m q j:Nat):(anI ds m q j).length≤j:=by
 unfold anI;simp only[aR,aU,bA,bC];omega
theorem awN(h:i<ds.length):(ds.take (i+1)).drop i=[ds.getD i 0]:=by
 rw[←bP h,List.drop_append_of_le_length (by rw[aU];omega),dQ (by rw[aU];omega),aS,aV h];rfl
def bkC(neg:Bool)(ds:List UInt8)(e p:Int)(H:Heap):Nat→Env→Heap→Prop:=λk env H1=>∃i:Nat,(i:Int)≤max p 0∧env=[(1,.iptr [.bool neg,.str ds,.int .i64 e]),(5,.int .i64 p),(6,.int .i64 (ds.length:Int)),(7,.str (aeO ds i)),(8,.str []),(9,.int .i64 (i:Int))]∧H=H1∧k=p.toNat-i
def bcR(neg:Bool)(ds w:List UInt8)(e p:Int)(H:Heap):Nat→Env→Heap→Prop:=λk env H1=>∃j:Nat,(j:Int)≤max ((ds.length:Int)-p) 0∧env=[(1,.iptr [.bool neg,.str ds,.int .i64 e]),(5,.int .i64 p),(6,.int .i64 (ds.length:Int)),(7,.str w),(8,.str (anI ds (-p).toNat p.toNat j)),(10,.int .i64 (p+j))]∧H=H1∧k=((ds.length:Int)-p).toNat-j
theorem axK(neg:Bool)(ds:List UInt8)(e:Int)(hr:yN ds e=true):Fn 203 [dA neg ds e] (.tuple [.str (aaM ds ((ds.length:Int)+e)).1.1,.str (aaM ds ((ds.length:Int)+e)).1.2,.bool (aaM ds ((ds.length:Int)+e)).2]):=by
 intro H;have hpd:=qQ hr;have hrl:=yO hr;have hdd:=qK hr;have hml:=zN;generalize hpp:(ds.length:Int)+e=p at *;refine .of_body func203 rfl ntmps203 results203 rfl ?_;iterate 11 refine AX ?_
 refine .cl rfl C73 (evs1 rfl) (acK neg ds e aA _) ?_;rw[hpd];iterate 5 refine AX ?_
 refine .p rfl (zA U61 rfl Z9 (tm rfl)) ?_;iterate 6 refine AX ?_
 refine .seqTo 27 (.bool (decide ((400:Int)<p)||(decide ((400:Int)<(ds.length:Int)-p)&&decide ((0:Int)<(ds.length:Int))))) [1,2,3,4,5,6] ?_ ?_
 ·iterate 4 refine AX ?_
  refine zC (t:=18) rfl (λhg18=>?_) (λhg18=>?_)
  ·have hh18:=hg18;try simp only[aW]at hh18
   iterate 10 refine AX ?_
   exact⟨rfl,zO rfl (by(rw[show decide ((400:Int)<p)=_ from hg18];rfl)) sX,rfl⟩
  have hh18:=hg18;try simp only[aT,cF]at hh18
  iterate 5 refine AX ?_
  refine zC (t:=23) rfl (λhg23=>?_) (λhg23=>?_)
  ·have hh23:=hg23;try simp only[aW]at hh23
   iterate 5 refine AX ?_
   exact⟨rfl,zO rfl (by(rw[show decide ((400:Int)<p)=_ from hg18,show decide ((400:Int)<(ds.length:Int)-p)=_ from hg23];rfl)) sX,rfl⟩
  have hh23:=hg23;try simp only[aT,cF]at hh23
  iterate 5 refine AX ?_
  exact⟨rfl,zO rfl (by(rw[show decide ((400:Int)<p)=_ from hg18,show decide ((400:Int)<(ds.length:Int)-p)=_ from hg23];rfl)) sX,rfl⟩
 refine .sub [(27,_),(1,_),(2,_),(3,_),(4,_),(5,_),(6,_)] sX ?_;refine .cx rfl (λhc27=>?_) (λhc27=>?_)
 ·simp only[dK,bD,aW]at hc27;iterate 10 refine AX ?_
  refine⟨?_,rfl⟩;unfold aaM;rw[aK];rfl
 simp only[cT,cA,aT]at hc27;have hb4:¬(400<(ds.length:Int)-p):=by
  intro q;by_cases hn0:0<ds.length
  ·omega
  have hn1:ds=[]:=cG.1 aA;have he:=hr;rw[hn1]at he;unfold yN at he;rw[aN rfl]at he;have:=of_decide_eq_true he;rw[hn1]at hpp q;simp only[aY]at hpp q;omega
 iterate 19 refine AX ?_
 refine .loopW (bkC neg ds e p H) (p.toNat) ⟨0,by omega,rfl,rfl,rfl⟩ (zF rfl (zF rfl (zF rfl (zU rfl (by unfold aeO;simp) sX)))) (hRa _) ?_;rintro _ _ _ ⟨i,hi,rfl,rfl,hk⟩;iterate 8 refine AX ?_
 refine .cx rfl (λhc30=>?_) (λhc30=>?_)
 ·iterate 2 refine AX ?_
  refine .seqToL [(7,.str (aeO ds (i+1)))] [1,5,6,8,9,30] ?_ ?_
  ·iterate 8 refine AX ?_
   refine .cx rfl (λhc35=>?_) (λhc35=>?_)
   ·iterate 2 refine AX ?_
    refine .p rfl (zA U61 rfl Z9 (tm rfl)) ?_;iterate 5 refine AX ?_
    refine .p rfl (zQ (tm rfl) (tm rfl) (by rw[zN,ahZ];simp only[bC,aU];omega)) ?_;iterate 3 refine AX ?_
    exact⟨rfl,(zU rfl (by(rw[show((i:Int)).toNat=i from rfl,show((i:Int)+1).toNat=i+1 by omega,awN aA];congr 1;exact azK aA)) sX),rfl⟩
   iterate 2 refine AX ?_
   refine .p rfl (zQ (tm rfl) (zS rfl) (by rw[zN,ahZ];simp only[aX,aY];omega)) ?_;iterate 3 refine AX ?_
   exact⟨rfl,(zU rfl (by(congr 1;exact azL aA)) sX),rfl⟩
  refine .sub [(7,_),(1,_),(5,_),(6,_),(8,_),(9,_),(30,_)] sX ?_;iterate 6 refine AX ?_
  refine Round.mk ⟨i+1,by omega,rfl,rfl,rfl⟩ sX (hRa _) aA
 iterate 5 refine AX ?_
 refine .seqToL [(7,.str (if p≤0 then [48]else aeO ds p.toNat))] [1,5,6,8] ?_ ?_
 ·iterate 6 refine AX ?_
  refine .cx rfl (λhc47=>?_) (λhc47=>?_)
  ·iterate 3 refine AX ?_
   exact⟨rfl,(zU rfl (by(rw[aN (by rcases Int.lt_or_le 0 p with q|q;have:=congrArg List.length (show aeO ds i=[]from hc47);rw[ahZ]at this;simp at this;omega;exact q)];done)) sX),rfl⟩
  refine AX ?_;exact⟨rfl,(zU rfl (by(rw[aM (by intro q;exact hc47 (cG.1 (by rw[ahZ];omega))),show i=p.toNat by omega];done)) sX),rfl⟩
 refine .sub [(7,_),(1,_),(5,_),(6,_),(8,_)] sX ?_;generalize hw:(if p≤0 then [48]else aeO ds p.toNat)=w at *;iterate 8 refine AX ?_
 refine .loopW (bcR neg ds w e p H) (((ds.length:Int)-p).toNat) ⟨0,by omega,rfl,rfl,rfl⟩ (zF rfl (zF rfl (zF rfl (zF rfl (zU rfl (by unfold anI;simp) (zU rfl aF zW)))))) (hRa _) ?_;rintro _ _ _ ⟨j,hj,rfl,rfl,hk⟩;iterate 8 refine AX ?_
 refine .cx rfl (λhc51=>?_) (λhc51=>?_)
 ·iterate 2 refine AX ?_
  refine .seqToL [(8,.str (anI ds (-p).toNat p.toNat (j+1)))] [1,5,6,7,10,51] ?_ ?_
  ·iterate 7 refine AX ?_
   refine .cx rfl (λhc55=>?_) (λhc55=>?_)
   ·iterate 2 refine AX ?_
    refine .p rfl (zQ (tm rfl) (zS rfl) (by have:=axB ds (-p).toNat p.toNat j;rw[zN];simp only[aX,aY];omega)) ?_;iterate 3 refine AX ?_
    exact⟨rfl,(zU rfl (by(congr 1;exact bfP aA)) sX),rfl⟩
   iterate 2 refine AX ?_
   refine .p rfl (zA U61 rfl Z9 (tm rfl)) ?_;iterate 5 refine AX ?_
   refine .p rfl (zQ (tm rfl) (tm rfl) (by have:=axB ds (-p).toNat p.toNat j;rw[zN];simp only[bC,aU];omega)) ?_;iterate 3 refine AX ?_
   exact⟨rfl,(zU rfl (by(rw[show(p+(j:Int)+1).toNat=(p+(j:Int)).toNat+1 by omega,awN aA];congr 1;exact bfQ aA aA aA)) sX),rfl⟩
  refine .sub [(8,_),(1,_),(5,_),(6,_),(7,_),(10,_),(51,_)] sX ?_;iterate 6 refine AX ?_
  refine Round.mk ⟨j+1,by omega,rfl,rfl,rfl⟩ (zF rfl (zF rfl (zF rfl (zF rfl (zF rfl (zU rfl (by congr 1;omega) zW)))))) (hRa _) aA
 iterate 16 refine AX ?_
 refine⟨?_,rfl⟩;unfold aaM;rw[aJ];have hj2:j=((ds.length:Int)-p).toNat:=by omega
 rw[hj2,←hw];unfold anI aeO;by_cases hp0:p≤0
 ·rw[aN hp0,aN hp0,show p.toNat=0 by omega,dY,Nat.min_eq_right aA,aZ aA];rfl
 rw[aM hp0,aM hp0,show(-p).toNat=0 by omega,Nat.min_eq_right (Nat.zero_le _),Nat.sub_zero,List.replicate_zero,cP];by_cases hp1:(ds.length:Int)≤p
 ·rw[aN hp1,aZ aA,show((ds.length:Int)-p).toNat=0 by omega,dX,show(p-(ds.length:Int)).toNat=p.toNat-ds.length by omega];rfl
 rw[aM hp1,show p.toNat-ds.length=0 by omega,List.replicate_zero,bJ,aZ (l:=ds.drop p.toNat) (by rw[bC];omega)];rfl
end
section
open Go Go.RowKit
set_option maxRecDepth 100000
theorem axH(l:Loc)(hk:l.ok)(neg:Bool)(ds:List UInt8)(e:Int)(hr:yN ds e=true):Fn 111 [rL l,dA neg ds e,.bool false] (.str (afE l neg ds ((ds.length:Int)+e))):=by
 intro H;have hsl:=aoS (ds:=ds) (p:=(ds.length:Int)+e) (yO hr).1;have hml:=zN;have hdd:=qK hr;have hrl:=yO hr;obtain⟨hk1,hk2,hk3,hk4,hk5⟩:=hk;generalize hsv:aaM ds ((ds.length:Int)+e)=sv at *;obtain⟨⟨w,r⟩,ok⟩:=sv;obtain⟨hsl1,hsl2⟩:=hsl;simp only[]at hsl1 hsl2;refine .of_body func111 rfl ntmps111 results111 rfl ?_;iterate 10 refine AX ?_
 refine .cl rfl C132 (evs1 rfl) (afL neg ds e aA _) ?_;rw[hr];iterate 10 refine AX ?_
 refine .cond_false (tm rfl) aD ?_;iterate 5 refine AX ?_
 refine .cl rfl call203 (evs1 rfl) (axK neg ds e hr _) ?_;rw[hsv]
 dsimp only
 iterate 16 refine AX ?_
 refine .cx rfl (λhc23=>?_) (λhc23=>?_)
 ·iterate 8 refine AX ?_
  refine⟨?_,rfl⟩;unfold afE;rw[hsv];simp only[];rw[aM (show¬ok=true by simpa using hc23)];rfl
 iterate 7 refine AX ?_
 refine .seqToL [(11,.str (if neg=true then l.minus else []))] [2,3,6,8,9] ?_ ?_
 ·iterate 2 refine AX ?_
  refine .p rfl (zA U61 rfl Z4 (tm rfl)) ?_;iterate 3 refine AX ?_
  refine .cx rfl (λhc25=>?_) (λhc25=>?_)
  ·refine AX ?_;refine .p rfl (zA U34 rfl Z9 (tm rfl)) ?_;iterate 3 refine AX ?_
   exact⟨rfl,(zU rfl (by(rw[aN aB];done)) sX),rfl⟩
  refine AX ?_;exact⟨rfl,(zU rfl (by(rw[aM (by(rw[hc25];decide))];done)) sX),rfl⟩
 refine .sub [(11,_),(2,_),(3,_),(6,_),(8,_),(9,_)] sX ?_;have hmw:(if neg=true then l.minus else []).length≤10:=by split<;>first|omega|(simp;done)
 iterate 6 refine AX ?_
 refine .cond_false (tm rfl) aD ?_;iterate 6 refine AX ?_
 refine .p rfl (zQ (tm rfl) (tm rfl) (by rw[zN];omega)) ?_;iterate 10 refine AX ?_
 refine .cx rfl (λhc36=>?_) (λhc36=>?_)
 ·iterate 2 refine AX ?_
  refine .p rfl (zA U34 rfl Z9 (tm rfl)) ?_;refine AX ?_;refine .p rfl (zQ (tm rfl) (tm rfl) (by rw[zN,aR];omega)) ?_;refine AX ?_;refine .p rfl (zQ (tm rfl) (tm rfl) (by rw[zN,aR,aR];omega)) ?_;iterate 11 refine AX ?_
  refine⟨?_,rfl⟩;unfold afE;rw[hsv];simp only[];rw[aN (show ok=true by simpa using hc23),aM (show¬r=[] by simpa using hc36),bF,bF];rfl
 iterate 10 refine AX ?_
 refine⟨?_,rfl⟩;unfold afE;rw[hsv];simp only[];rw[aN (show ok=true by simpa using hc23),aN (show r=[] by simpa using hc36),bJ];rfl
theorem bbN{n:Nat}(h:n<10):((([48,49,50,51,52,53,54,55,56,57]:List UInt8).take (n+1)).drop n)=dec n:=by
 rw[ahY h];have:n=0∨n=1∨n=2∨n=3∨n=4∨n=5∨n=6∨n=7∨n=8∨n=9:=by omega
 rcases this with rfl|rfl|rfl|rfl|rfl|rfl|rfl|rfl|rfl|rfl<;>rfl
theorem awW(n:Nat)(hn:n≤1000000000)(ih:∀m,m<n→∀H,ACall prog 112 [.int .i64 (m:Int)] H (λy H'=>y= .str (dec m)∧H'=H))(H:Heap):ACall prog 112 [.int .i64 (n:Int)] H (λy H'=>y= .str (dec n)∧H'=H):=by
 have hml:=zN;have hl1:=(adI (n:=n/10) (k:=10) aC).2 aA;have hl2:=(adI (n:=n%10) (k:=10) aC).2 aA;refine .of_body func112 rfl ntmps112 results112 rfl ?_;iterate 12 refine AM ?_
 refine .cx rfl (λhc4=>?_) (λhc4=>?_)
 ·iterate 5 refine AM ?_
  refine .p rfl (qZ U9 (zS rfl) (tm rfl) (tm rfl) aA aA (by simp only[aX,aY];omega)) ?_;iterate 6 refine AX ?_
  refine⟨?_,rfl⟩;rw[←bbN (show n<10 by omega)];rfl
 iterate 6 refine AM ?_
 refine .cl rfl call112 (evs1 rfl) (ih (n/10) aA _) ?_;iterate 2 refine AM ?_
 refine .cl rfl call112 (evs1 rfl) (ih (n%10) aA _) (.p rfl (zQ (tm rfl) (tm rfl) (by rw[zN];omega)) ?_);iterate 5 refine AX ?_
 refine⟨?_,rfl⟩;rw[akU (show 10≤n by omega),ahY (bX n aC)];rfl
theorem auC(n:Nat)(hn:n≤1000000000):Fn 112 [.int .i64 (n:Int)] (.str (dec n)):=by
 intro H;induction n using Nat.strongRecOn generalizing H with
 |ind n ih=>exact awW n hn (λm hm H=>ih m hm aA H) H
theorem rnumberZ(q:Int)(n:Nat)(hq:q=(n:Int))(hn:n≤1000000000):Fn 112 [.int .i64 q] (.str (dec n)):=by
 intro H;subst hq;exact auC n hn H
theorem itoaZ(q:Int)(n:Nat)(hq:q=(n:Int))(hn:n≤9223372036854775807):Fn 90 [.int .i64 q] (.str (dec n)):=by
 intro H;subst hq;exact itoaA n hn H
def ajJ(l:Loc)(neg:Bool)(ds:List UInt8):List UInt8:=(if neg=true then l.minus else [])++ds.take 1++(if(1:Int)<(ds.length:Int)then l.dc++ds.drop 1 else [])
def amC(p:Int):Nat:=(if p<1 then 1-p else p-1).toNat
def beG(l:Loc)(s:(Bool×List UInt8×Int)×Int):List UInt8:=
 if s.2≠0 then []
 else if s.1.2.1=[]∨(-4≤(s.1.2.1.length:Int)+s.1.2.2∧(s.1.2.1.length:Int)+s.1.2.2≤15)then afE l s.1.1 s.1.2.1 ((s.1.2.1.length:Int)+s.1.2.2)
 else ajJ l s.1.1 s.1.2.1++[69]++[if(s.1.2.1.length:Int)+s.1.2.2<1 then 45 else 43]++(if(dec (amC ((s.1.2.1.length:Int)+s.1.2.2))).length<2 then [48]else [])++dec (amC ((s.1.2.1.length:Int)+s.1.2.2))
theorem biW{l:Loc}{neg:Bool}(h:ds≠[])(hl:ds.length≤300):afE l neg ds 1=ajJ l neg ds:=by
 have hp:=bK.2 h;unfold afE ajJ aaM;rw[aM (show¬((400:Int)<1∨400<(ds.length:Int)-1) by omega),aM (show¬(1:Int)≤0 by decide)];by_cases h1:(ds.length:Int)≤1
 ·rw[aN h1,aM (show¬(1:Int)<(ds.length:Int) by omega),aZ (show ds.length≤1 by omega)];rw[show((1:Int)-(ds.length:Int)).toNat=0 by omega];simp
 rw[aM h1,aN (show(1:Int)<(ds.length:Int) by omega)];have hd:ds.drop 1≠[]:=λq=>by have:=congrArg List.length q;rw[bC]at this;simp only[aY]at this;omega
 show(if true=true then _++(ds.take 1++(if ds.drop 1=[]then []else l.dc++ds.drop 1))else [])=_;rw[aN rfl,aM hd,bF]
theorem bwR{n:Nat}:(dec n).length<2↔n<10:=by
 have:=adI (n:=n) (k:=1) aC;rw[Nat.pow_one]at this;omega
theorem alL(x n:Nat):yN (anR x n).1.2.1 (anR x n).1.2.2=true:=by
 unfold anR;split
 ·rfl
 unfold boR;split
 ·exact acO x
 unfold bhM;have hd:=qK (acO x);exact anZ (by split;exact ahU (hd.take _);exact hd.take _)
theorem byL(neg:Bool)(ds:List UInt8)(e:Int):(mkN neg ds e).1.2.1.length≤ds.length:=by
 have h:(abX ds).length≤ds.length:=bH (afV _ _) (aqL _ _);unfold mkN;split
 ·simp
 split
 ·exact h
 simp
theorem atQ(x n:Nat):(anR x n).1.2.1.length≤n+1:=by
 unfold anR;split
 ·simp
 unfold boR;split
 ·rename_i h;exact Nat.le_succ_of_le h
 unfold bhM;refine bH (byL _ _ _) ?_;split
 ·refine bH (akP _) ?_;rw[aU];omega
 rw[aU];omega
theorem alG(l:Loc)(hk:l.ok)(sz:AV)(x:Nat)(hx:x<18446744073709551616):Fn 37 [.int .u64 (x:Int),pL l sz] (.str (beG l (anR x 15))):=by
 intro H;have hsr:=alL x 15;have hsl:=atQ x 15;generalize hs:anR x 15=s at *;obtain⟨⟨neg,ds,e⟩,er⟩:=s
 dsimp only at hsr hsl
 have hml:=zN;have hrl:=yO hsr;have hdd:=qK hsr;have hpd:=qQ hsr;have hwl:=avY (l:=l) (neg:=neg) (ds:=ds) (p:=(ds.length:Int)+e) aA hk;have hkk:=hk;obtain⟨hk1,hk2,hk3,hk4,hk5⟩:=hkk;have hel:(dec (amC ((ds.length:Int)+e))).length≤10:=(adI aC).2 (by unfold amC;split<;>omega);have hmn:(ajJ l neg ds).length≤200:=by
  unfold ajJ;have a1:(if neg=true then l.minus else []).length≤10:=by split<;>first|omega|(simp;done)
  have a2:(if(1:Int)<(ds.length:Int)then l.dc++ds.drop 1 else []).length≤110:=by split<;>simp only[aR,bC,aY]<;>omega
  simp only[aR,aU];omega
 have hzl:(if(dec (amC ((ds.length:Int)+e))).length<2 then([48]:List UInt8)else []).length≤1:=by split<;>simp
 refine .of_body func37 rfl ntmps37 results37 rfl ?_;iterate 9 refine AX ?_
 refine .cl rfl call87 (.cons (tm rfl) (.cons zJ (.cons zJ .nil))) (beX x hx 15 aC aC _) ?_;rw[hs];unfold dT
 dsimp only
 iterate 3 refine AX ?_
 refine .al zr61 (λb5 hb5=>?_);iterate 4 refine AX ?_
 refine .frz (t:=5) rfl (hb5) ?_;iterate 7 refine AX ?_
 refine .cx rfl (λhc16=>?_) (λhc16=>?_)
 ·iterate 8 refine AX ?_
  refine⟨?_,rfl⟩;unfold beG
  dsimp only
  rw[aN (show er≠0 by simpa using hc16)];rfl
 have her:er=0:=by simpa using hc16
 subst her;iterate 5 refine AX ?_
 refine .cl rfl C88 (evs1 rfl) (adJ neg ds e hdd _) ?_;rw[hpd];iterate 4 refine AX ?_
 refine .seqTo 29 (.bool (decide (ds=[])||(decide (-4≤((ds.length:Int)+e))&&decide (((ds.length:Int)+e)≤15)))) [3,4,5,7] ?_ ?_
 ·refine AX ?_;refine .p rfl (zA U61 rfl Z9 (tm rfl)) ?_;iterate 3 refine AX ?_
  refine zC (t:=22) rfl (λhg22=>?_) (λhg22=>?_)
  ·have hh22:=hg22;try simp only[aW]at hh22
   iterate 8 refine AX ?_
   exact⟨rfl,zO rfl (by(rw[show decide (ds=[])=_ from hg22];rfl)) sX,rfl⟩
  have hh22:=hg22;try simp only[aT]at hh22
  iterate 3 refine AX ?_
  refine zC (t:=25) rfl (λhg25=>?_) (λhg25=>?_)
  ·have hh25:=hg25;try simp only[aW]at hh25
   iterate 5 refine AX ?_
   exact⟨rfl,zO rfl (by(rw[show decide (ds=[])=_ from hg22,show decide (-4≤((ds.length:Int)+e))=_ from hg25];rfl)) sX,rfl⟩
  have hh25:=hg25;try simp only[aT,Int.not_le]at hh25
  iterate 5 refine AX ?_
  exact⟨rfl,zO rfl (by(rw[show decide (ds=[])=_ from hg22,show decide (-4≤((ds.length:Int)+e))=_ from hg25];rfl)) sX,rfl⟩
 refine .sub [(29,_),(3,_),(4,_),(5,_),(7,_)] sX ?_;refine .cx rfl (λhc29=>?_) (λhc29=>?_)
 ·simp only[dK,bD,aW]at hc29;iterate 4 refine AX ?_
  refine .cl rfl call89 (.cons (tm rfl) (.cons (tm rfl) (.cons yA .nil))) (aqS l hk sz neg ds e hsr _) ?_;iterate 6 refine AX ?_
  refine⟨?_,rfl⟩;unfold beG
  dsimp only
  rw[aM (show¬((0:Int)≠0) by simp),aN hc29];rfl
 simp only[cT,cA,aT]at hc29;have hdn:ds≠[]:=hc29.1;have hdp:=bK.2 hdn;have hr1:yN ds (1-(ds.length:Int))=true:=by
  have h:=hsr;rw[apD hdn]at h ⊢;unfold apE at h ⊢;simp only[bD,aW]at h ⊢;refine⟨⟨⟨⟨⟨h.1.1.1.1.1,by omega⟩,by omega⟩,h.1.1.2⟩,h.1.2⟩,h.2⟩
 iterate 5 refine AX ?_
 refine .p rfl (zA U61 rfl Z4 (tm rfl)) ?_;refine AX ?_;refine .p rfl (zA U61 rfl Z9 (tm rfl)) ?_;refine AX ?_;refine .p rfl (zA U61 rfl Z9 (tm rfl)) ?_;iterate 3 refine AX ?_
 refine .p rfl (qU zr61 pl61 (.cons (tm rfl) (.inl rfl) (.cons (tm rfl) (.inl rfl) (.cons (tm rfl) (.inl rfl) .nil))) rfl) (.cl rfl call89 (.cons (tm rfl) (.cons (tm rfl) (.cons yA .nil))) (aqS l hk sz neg ds (1-(ds.length:Int)) hr1 _) ?_);rw[show(ds.length:Int)+(1-(ds.length:Int))=1 by omega,biW hdn aA];refine .p rfl (zQ (tm rfl) (zS rfl) (by rw[zN];simp only[aX,aY];omega)) ?_;iterate 10 refine AX ?_
 refine .cl rfl C90 (evs1 rfl) (itoaZ _ (amC ((ds.length:Int)+e)) (by unfold amC;simp only[asX];split<;>split<;>omega) (by unfold amC;split<;>omega) _) ?_;iterate 3 refine AX ?_
 refine .seqToL [(8,.str (ajJ l neg ds++[69]++[if((ds.length:Int)+e)<1 then 45 else 43]))] [4,9] ?_ ?_
 ·iterate 6 refine AX ?_
  refine .cx rfl (λhc52=>?_) (λhc52=>?_)
  ·iterate 2 refine AX ?_
   refine .p rfl (zQ (tm rfl) (zS rfl) (by rw[zN];simp only[aR,aX,aY];omega)) ?_;iterate 2 refine AX ?_
   exact⟨rfl,(zU rfl (by(rw[aN aB];done)) sX),rfl⟩
  iterate 2 refine AX ?_
  refine .p rfl (zQ (tm rfl) (zS rfl) (by rw[zN];simp only[aR,aX,aY];omega)) ?_;iterate 2 refine AX ?_
  exact⟨rfl,(zU rfl (by(rw[aJ];done)) sX),rfl⟩
 refine .sub [(8,_),(4,_),(9,_)] sX ?_;refine .seqToL [(8,.str (ajJ l neg ds++[69]++[if((ds.length:Int)+e)<1 then 45 else 43]++(if(dec (amC ((ds.length:Int)+e))).length<2 then([48]:List UInt8)else [])))] [4,9] ?_ ?_
 ·iterate 7 refine AX ?_
  refine .cx rfl (λhc59=>?_) (λhc59=>?_)
  ·iterate 2 refine AX ?_
   refine .p rfl (zQ (tm rfl) (zS rfl) (by rw[zN];simp only[aR,aX,aY];omega)) ?_;iterate 2 refine AX ?_
   exact⟨rfl,(zU rfl (by(rw[aN (show(dec (amC ((ds.length:Int)+e))).length<2 by omega)];done)) sX),rfl⟩
  refine AX ?_;exact⟨rfl,(zU rfl (by(rw[aM (show¬(dec (amC ((ds.length:Int)+e))).length<2 by omega),bJ];done)) sX),rfl⟩
 refine .sub [(8,_),(4,_),(9,_)] sX ?_;iterate 4 refine AX ?_
 refine .p rfl (zQ (tm rfl) (tm rfl) (by rw[zN];simp only[aR,aX,aY];omega)) ?_;iterate 5 refine AX ?_
 refine⟨?_,rfl⟩;unfold beG
 dsimp only
 rw[aM (show¬((0:Int)≠0) by simp),aM (show¬(ds=[]∨(-4≤((ds.length:Int)+e)∧((ds.length:Int)+e)≤15)) by rintro(q|q);exact hdn q;omega)];rfl
theorem aiQ(l:Loc)(hk:l.ok)(x:Nat)(hx:x<18446744073709551616):Fn 46 [.int .u64 (x:Int),rL l] (.str (beG l (anR x 15))):=by
 intro H;have hsr:=alL x 15;have hsl:=atQ x 15;generalize hs:anR x 15=s at *;obtain⟨⟨neg,ds,e⟩,er⟩:=s
 dsimp only at hsr hsl
 have hml:=zN;have hrl:=yO hsr;have hdd:=qK hsr;have hpd:=qQ hsr;have hwl:=avY (l:=l) (neg:=neg) (ds:=ds) (p:=(ds.length:Int)+e) aA hk;have hkk:=hk;obtain⟨hk1,hk2,hk3,hk4,hk5⟩:=hkk;have hel:(dec (amC ((ds.length:Int)+e))).length≤10:=(adI aC).2 (by unfold amC;split<;>omega);have hmn:(ajJ l neg ds).length≤200:=by
  unfold ajJ;have a1:(if neg=true then l.minus else []).length≤10:=by split<;>first|omega|(simp;done)
  have a2:(if(1:Int)<(ds.length:Int)then l.dc++ds.drop 1 else []).length≤110:=by split<;>simp only[aR,bC,aY]<;>omega
  simp only[aR,aU];omega
 have hzl:(if(dec (amC ((ds.length:Int)+e))).length<2 then([48]:List UInt8)else []).length≤1:=by split<;>simp
 refine .of_body func46 rfl ntmps46 results46 rfl ?_;iterate 9 refine AX ?_
 refine .cl rfl call110 (.cons (tm rfl) (.cons zJ (.cons zJ .nil))) (baA x hx 15 aC aC _) ?_;rw[hs];unfold dT
 dsimp only
 iterate 3 refine AX ?_
 refine .al zr61 (λb5 hb5=>?_);iterate 4 refine AX ?_
 refine .frz (t:=5) rfl (hb5) ?_;iterate 7 refine AX ?_
 refine .cx rfl (λhc16=>?_) (λhc16=>?_)
 ·iterate 8 refine AX ?_
  refine⟨?_,rfl⟩;unfold beG
  dsimp only
  rw[aN (show er≠0 by simpa using hc16)];rfl
 have her:er=0:=by simpa using hc16
 subst her;iterate 5 refine AX ?_
 refine .cl rfl C73 (evs1 rfl) (acK neg ds e aA _) ?_;rw[hpd];iterate 4 refine AX ?_
 refine .seqTo 30 (.bool (decide ((ds.length:Int)=0)||(decide (-4≤((ds.length:Int)+e))&&decide (((ds.length:Int)+e)≤15)))) [3,4,5,7] ?_ ?_
 ·refine AX ?_;refine .p rfl (zA U61 rfl Z9 (tm rfl)) ?_;iterate 4 refine AX ?_
  refine zC (t:=23) rfl (λhg23=>?_) (λhg23=>?_)
  ·have hh23:=hg23;try simp only[aW]at hh23
   iterate 8 refine AX ?_
   exact⟨rfl,zO rfl (by(rw[show decide ((ds.length:Int)=0)=_ from hg23];rfl)) sX,rfl⟩
  have hh23:=hg23;try simp only[aT]at hh23
  iterate 3 refine AX ?_
  refine zC (t:=26) rfl (λhg26=>?_) (λhg26=>?_)
  ·have hh26:=hg26;try simp only[aW]at hh26
   iterate 5 refine AX ?_
   exact⟨rfl,zO rfl (by(rw[show decide ((ds.length:Int)=0)=_ from hg23,show decide (-4≤((ds.length:Int)+e))=_ from hg26];rfl)) sX,rfl⟩
  have hh26:=hg26;try simp only[aT,Int.not_le]at hh26
  iterate 5 refine AX ?_
  exact⟨rfl,zO rfl (by(rw[show decide ((ds.length:Int)=0)=_ from hg23,show decide (-4≤((ds.length:Int)+e))=_ from hg26];rfl)) sX,rfl⟩
 refine .sub [(30,_),(3,_),(4,_),(5,_),(7,_)] sX ?_;refine .cx rfl (λhc30=>?_) (λhc30=>?_)
 ·simp only[dK,bD,aW]at hc30;have hc30b:ds=[]∨(-4≤((ds.length:Int)+e)∧((ds.length:Int)+e)≤15):=hc30.imp (λq=>cG.1 aA) id;iterate 4 refine AX ?_
  refine .cl rfl call111 (.cons (tm rfl) (.cons (tm rfl) (.cons yA .nil))) (axH l hk neg ds e hsr _) ?_;iterate 6 refine AX ?_
  refine⟨?_,rfl⟩;unfold beG
  dsimp only
  rw[aM (show¬((0:Int)≠0) by simp),aN hc30b];rfl
 simp only[cT,cA,aT]at hc30;have hdp:0<ds.length:=by omega
 have hdn:=bK.1 hdp;iterate 7 refine AX ?_
 refine .seqToL [(8,.str (if neg=true then l.minus else []))] [3,4,5,7] ?_ ?_
 ·iterate 2 refine AX ?_
  refine .p rfl (zA U61 rfl Z4 (tm rfl)) ?_;iterate 3 refine AX ?_
  refine .cx rfl (λhc35=>?_) (λhc35=>?_)
  ·refine AX ?_;refine .p rfl (zA U34 rfl Z9 (tm rfl)) ?_;iterate 3 refine AX ?_
   exact⟨rfl,(zU rfl (by(rw[aN aB];done)) sX),rfl⟩
  refine AX ?_;exact⟨rfl,(zU rfl (by(rw[aM (by(rw[hc35];decide))];done)) sX),rfl⟩
 refine .sub [(8,_),(3,_),(4,_),(5,_),(7,_)] sX ?_;have hmw:(if neg=true then l.minus else []).length≤10:=by split<;>first|omega|(simp;done)
 iterate 3 refine AX ?_
 refine .p rfl (zA U61 rfl Z9 (tm rfl)) ?_;iterate 2 refine AX ?_
 refine .p rfl (zQ (tm rfl) (tm rfl) (by rw[zN];simp only[aU];omega)) ?_;iterate 3 refine AX ?_
 refine .seqToL [(8,.str (ajJ l neg ds))] [4,7] ?_ ?_
 ·iterate 2 refine AX ?_
  refine .p rfl (zA U61 rfl Z9 (tm rfl)) ?_;iterate 5 refine AX ?_
  refine .cx rfl (λhc46=>?_) (λhc46=>?_)
  ·refine .draw [(0,true),(1,true),(2,true),(3,true),(4,true),(5,true),(6,true),(7,true),(8,true)] rfl aE ?_;refine AX ?_;refine .p rfl rfl (zA U34 rfl Z9 (tm rfl)) ?_;refine AX ?_;refine .p rfl rfl (zQ (tm rfl) (tm rfl) (by rw[zN];simp only[aR,aU];omega)) (.p rfl rfl (zA U61 rfl Z9 (tm rfl)) ?_);iterate 2 refine AX ?_
   refine .p rfl rfl (zQ (tm rfl) (tm rfl) (by rw[zN];simp only[aR,aU,bC];omega)) ?_;iterate 2 refine AX ?_
   exact⟨rfl,(zU rfl (by unfold ajJ;first|(rw[aN (show(1:Int)<(ds.length:Int) by omega),bF];first|done|(simp only[bF];rfl))|(rw[aM (show¬(1:Int)<(ds.length:Int) by omega),bJ];rfl)) sX),rfl⟩
  refine AX ?_;exact⟨rfl,(zU rfl (by unfold ajJ;first|(rw[aN (show(1:Int)<(ds.length:Int) by omega),bF];first|done|(simp only[bF];rfl))|(rw[aM (show¬(1:Int)<(ds.length:Int) by omega),bJ];rfl)) sX),rfl⟩
 refine .sub [(8,_),(4,_),(7,_)] sX ?_;iterate 10 refine AX ?_
 refine .p rfl (zQ (tm rfl) (zS rfl) (by rw[zN];simp only[aX,aY];omega)) ?_;iterate 3 refine AX ?_
 refine .seqToL [(9,.int .i64 ((amC ((ds.length:Int)+e):Nat):Int)),(8,.str (ajJ l neg ds++[69]++[if((ds.length:Int)+e)<1 then 45 else 43]))] [4] ?_ ?_
 ·iterate 6 refine AX ?_
  refine .cx rfl (λhc60=>?_) (λhc60=>?_)
  ·iterate 9 refine AX ?_
   refine .p rfl (zQ (tm rfl) (zS rfl) (by rw[zN];simp only[aR,aX,aY];omega)) ?_;iterate 2 refine AX ?_
   exact⟨rfl,(zU rfl (by(congr 1;unfold amC;rw[aK];omega)) (zU rfl (by(rw[aK];done)) (zF rfl zW))),rfl⟩
  iterate 2 refine AX ?_
  refine .p rfl (zQ (tm rfl) (zS rfl) (by rw[zN];simp only[aR,aX,aY];omega)) ?_;iterate 2 refine AX ?_
  exact⟨rfl,(zU rfl (by(congr 1;unfold amC;rw[aJ];omega)) (zU rfl (by(rw[aJ];done)) (zF rfl zW))),rfl⟩
 refine .sub [(9,_),(8,_),(4,_)] sX ?_;have hen:amC ((ds.length:Int)+e)≤200000:=by unfold amC;split<;>omega
 have hd2:=bwR (n:=amC ((ds.length:Int)+e));refine .seqToL [(8,.str (ajJ l neg ds++[69]++[if((ds.length:Int)+e)<1 then 45 else 43]++(if(dec (amC ((ds.length:Int)+e))).length<2 then([48]:List UInt8)else [])))] [9,4] ?_ ?_
 ·iterate 6 refine AX ?_
  refine .cx rfl (λhc68=>?_) (λhc68=>?_)
  ·iterate 2 refine AX ?_
   refine .p rfl (zQ (tm rfl) (zS rfl) (by rw[zN];simp only[aR,aX,aY];omega)) ?_;iterate 2 refine AX ?_
   exact⟨rfl,(zU rfl (by(rw[aN (show(dec (amC ((ds.length:Int)+e))).length<2 by omega)];done)) sX),rfl⟩
  refine AX ?_;exact⟨rfl,(zU rfl (by(rw[aM (show¬(dec (amC ((ds.length:Int)+e))).length<2 by omega),bJ];done)) sX),rfl⟩
 refine .sub [(8,_),(9,_),(4,_)] sX ?_;iterate 4 refine AX ?_
 refine .cl rfl call112 (evs1 rfl) (rnumberZ _ (amC ((ds.length:Int)+e)) aA aA _) (.p rfl (zQ (tm rfl) (tm rfl) (by rw[zN];simp only[aR,aX,aY];omega)) ?_);iterate 5 refine AX ?_
 refine⟨?_,rfl⟩;unfold beG
 dsimp only
 rw[aM (show¬((0:Int)≠0) by simp),aM (show¬(ds=[]∨(-4≤((ds.length:Int)+e)∧((ds.length:Int)+e)≤15)) by rintro(q|q);exact hdn q;omega)];rfl
end
end Go.Proofs.YteedncdcbgplfaaGreatDoor
