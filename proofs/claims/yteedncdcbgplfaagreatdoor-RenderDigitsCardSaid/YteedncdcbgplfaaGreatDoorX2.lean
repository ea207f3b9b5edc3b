import Derived.Test.YteedncdcbgplfaaGreatDoorD2
set_option maxHeartbeats 1000000
namespace Go.Proofs.YteedncdcbgplfaaGreatDoor
open Go.Proofs.Tryz
open Go Go.RowKit
variable{k m:Nat}{ds:List UInt8}
section
set_option maxRecDepth 100000
def afZ:Nat→Nat→Nat×Nat
 |m,0=>(m,0)
 |m,k+1=>if m%2=0∧0<m then afZ (m/2) k else(m,k+1)
theorem alX:∀(k m:Nat),(afZ m k).1≤m∧(afZ m k).2≤k
 |0,m=>⟨aZ _,aZ _⟩
 |k+1,m=>by
  unfold afZ;split
  ·have:=alX k (m/2);omega
  exact⟨aZ _,aZ _⟩
theorem biB(h:m%2=0)(hm:0<m)(hk:0<k):afZ m k=afZ (m/2) (k-1):=by
 obtain⟨k,rfl⟩:∃q,k=q+1:=⟨k-1,by omega⟩;rw[afZ,aN ⟨h,hm⟩];rfl
theorem baC(h:k=0∨m=0∨m%2≠0):afZ m k=(m,k):=by
 cases k with
 |zero=>rfl
 |succ k=>rw[afZ,aJ]
def ofN(neg:Bool)(m:Nat)(e:Int):Bool×List UInt8×Int:=
 if 0≤e then(mkN neg (dec (m*2^e.toNat)) 0).1 else(mkN neg (dec ((afZ m (-e).toNat).1*5^(afZ m (-e).toNat).2)) (-((afZ m (-e).toNat).2:Int))).1
def ofR(m:Nat)(e:Int):Nat:=if 0≤e then m*2^e.toNat else(afZ m (-e).toNat).1*5^(afZ m (-e).toNat).2
def ofX(m:Nat)(e:Int):Int:=if 0≤e then 0 else-((afZ m (-e).toNat).2:Int)
theorem btO(neg:Bool)(m:Nat)(e:Int):ofN neg m e=(mkN neg (dec (ofR m e)) (ofX m e)).1:=by
 unfold ofN ofR ofX;split<;>rfl
def dD(d:Bool×List UInt8×Int):AV:=dA d.1 d.2.1 d.2.2
theorem aqK(hk:k≤3300):18014398509481984*2^k<BIG:=by
 obtain⟨K,hK,hB⟩:∃K,K=8192∧BIG=2^K:=⟨32*256,rfl,atP _ rfl⟩;rw[hB,show(18014398509481984:Nat)=2^54 by decide,←bI];exact eV aC aA
theorem acA(hm:m<18014398509481984)(hk:k≤1075):m*5^k<BIG∧5^k<BIG:=by
 have h1:5^k≤2^(3*k):=by rw[dV];exact Nat.pow_le_pow_left aC k
 have h0:5^k≤18014398509481984*5^k:=Nat.le_mul_of_pos_left _ aC;have h2:18014398509481984*5^k<BIG:=bA (bS _ h1) (aqK aA);exact⟨bA (bD _ aA) h2,bA h0 h2⟩
theorem alY(hm:m<18014398509481984)(hk:k≤972):m*2^k<BIG:=by
 exact bA (bD _ aA) (aqK aA)
theorem afO(hm:m<18014398509481984):m<BIG:=eG hm (by unfold BIG;decide+kernel)
theorem buI(h:0<m):(zF m).getD 0 0&&&1=m%2:=by
 rw[qV h,eP,show(1:Nat)=2^1-1 by decide,dS];omega
theorem atY:(zF m).length=0↔m=0:=by
 constructor
 ·intro h;rcases bF m with h0|h0
  ·exact h0
  have:=ajY h0;omega
 rintro rfl;rfl
theorem btM{e:Int}(hm:m<18014398509481984)(he: -1075≤e∧e≤972):ofR m e<BIG:=by
 unfold ofR;split
 ·exact alY hm aA
 have h:=alX (-e).toNat m;exact(acA aA aA).1
theorem bbR{e:Int}(he: -1075≤e∧e≤972): -1075≤ofX m e∧ofX m e≤0:=by
 unfold ofX;have h:=alX (-e).toNat m;split<;>omega
theorem shlZ(a s:Nat)(q:Int)(hq:q=(s:Int))(h:a*2^s<BIG)(hs:s<1000000000):Fn 168 [qX a,.int .i64 q] (.tuple [qX (a*2^s),.int .i64 0]):=by
 intro H;subst hq;exact shlB a s h hs H
theorem powZ(b n:Nat)(q:Int)(hq:q=(n:Int))(hb:2≤b)(hb2:b≤1000000)(hn2:n<1000000000)(h:b^n<BIG):Fn 170 [.int .i64 (b:Int),.int .i64 q] (.tuple [qX (b^n),.int .i64 0]):=by
 intro H;subst hq;exact atG b n hb hb2 hn2 h H
theorem chE(neg:Bool)(e:Int):(mkN neg (dec 0) e).1=(neg,[],0):=by
 unfold mkN;rw[aN (show abE (dec 0)=[] by rw[akZ aC];rfl)]
def cjK(neg:Bool)(m0 k0 b:Nat)(H:Heap):Nat→Env→Heap→Prop:=λk env H1=>∃m k1:Nat,m<18014398509481984∧k1≤1075∧afZ m k1=afZ m0 k0∧env=[(0,.bool neg),(1,qX m),(2,.int .i64 (-(k1:Int))),(6,.ptr (some ⟨b,0,none⟩))]∧H1=H.set b (.box 61 [.bool false,.str [],.int .i64 0])∧k=k1
theorem apX(neg:Bool)(m:Nat)(e:Int)(hm:m<18014398509481984)(he: -1075≤e∧e≤972):Fn 92 [.bool neg,qX m,.int .i64 e] (dD (ofN neg m e)):=by
 intro H;have hmB:=afO hm;refine .of_body func92 rfl ntmps92 results92 rfl ?_;iterate 2 refine AX ?_
 refine .al zr61 (λb6 hb6=>?_);iterate 7 refine AX ?_
 refine .seqToL [(1,qX (ofR m e)),(7,.int .i64 (ofX m e))] [0,6] ?_ ?_
 ·iterate 6 refine AX ?_
  refine .cx rfl (λhc13=>?_) (λhc13=>?_)
  ·iterate 3 refine AX ?_
   refine .cl rfl C168 (evs2 rfl rfl) (shlZ m e.toNat e aA (alY hm aA) aA _) ?_;iterate 5 refine AX ?_
   exact⟨rfl,(zR rfl (by(unfold ofR;rw[aK];done)) (zR rfl (by(unfold ofX;rw[aK];done)) sX)),rfl⟩
  have hen:e= -(((-e).toNat:Nat):Int):=by omega
  iterate 2 refine AX ?_
  refine .loopW (cjK neg m (-e).toNat b6 H) ((-e).toNat) ⟨m,(-e).toNat,hm,by omega,rfl,rfl,rfl,rfl⟩ (zK rfl (zK rfl (zR rfl (by rw[←hen]) (zK rfl yF)))) (hRa _) ?_;rintro _ _ _ ⟨m1,k1,hm1,hk1,hst,rfl,rfl,hk⟩;have hg0:=Limbs.getD (zH m1) 0;refine AX ?_;refine .seqTo 33 (.bool (decide (-(k1:Int)<0)&&decide ((0:Int)<((zF m1).length:Int))&&decide (((((zF m1).getD 0 0&&&1:Nat)):Int)=((0:Nat):Int)))) [0,1,2,6] ?_ ?_
  ·iterate 4 refine AX ?_
   refine zD (t:=22) rfl (λhg22=>?_) (λhg22=>?_)
   ·have hh22:=hg22;try simp only[aT]at hh22
    iterate 5 refine AX ?_
    refine zD (t:=27) rfl (λhg27=>?_) (λhg27=>?_)
    ·have hh27:=hg27;try simp only[aT]at hh27
     refine AX ?_;refine .gp rfl rfl rfl aB (zV (0) U159 Z210 (tm rfl) zJ aA aA) ?_;refine AX ?_;refine .gp rfl rfl rfl aB (ajU (tm rfl) (yB 1) aB aA) ?_;iterate 3 refine AM ?_
     exact⟨rfl,zS rfl (by(rw[show decide (-(k1:Int)<0)=_ from hg22,show decide ((0:Int)<((zF m1).length:Int))=_ from hg27];rfl)) sX,rfl⟩
    have hh27:=hg27;try simp only[aR,cU]at hh27
    iterate 7 refine AX ?_
    exact⟨rfl,zS rfl (by(rw[show decide (-(k1:Int)<0)=_ from hg22,show decide ((0:Int)<((zF m1).length:Int))=_ from hg27];rfl)) sX,rfl⟩
   have hh22:=hg22;try simp only[aR,cU]at hh22
   iterate 12 refine AX ?_
   exact⟨rfl,zS rfl (by(rw[show decide (-(k1:Int)<0)=_ from hg22];rfl)) sX,rfl⟩
  refine .sub [(33,_),(0,_),(1,_),(2,_),(6,_)] sX ?_;refine .cx rfl (λhc33=>?_) (λhc33=>?_)
  ·simp only[bN,aT]at hc33;obtain⟨⟨hk0,hl0⟩,hb0⟩:=hc33;have hm0:0<m1:=by rcases bF m1 with h|h;rw[h]at hl0;exact absurd hl0 aC;exact h
   rw[buI hm0]at hb0;have hst2:=biB (m:=m1) (k:=k1) aA hm0 aA;iterate 6 refine AX ?_
   refine .cl rfl C169 (.cons (tm rfl) (.cons zJ .nil)) (shrB m1 1 (afO hm1) aC _) ?_;iterate 14 refine AX ?_
   refine Round.mk ⟨m1/2,k1-1,by omega,by omega,by rw[←hst2];exact hst,rfl,rfl,rfl⟩ (zK rfl (zR rfl (by rw[Nat.pow_one]) (zR rfl (by congr 1;omega) (zK rfl yF)))) (hRa _) aA
  simp only[cJ,aR]at hc33;have hse:afZ m1 k1=(m1,k1):=baC (by
    rcases bF m1 with h|h
    ·exact .inr (.inl h)
    have hnl:=ajY h;rw[buI h]at hc33;omega)
  rw[hst]at hse;iterate 9 refine AX ?_
  refine .cl rfl C170 (.cons zJ (evs1 rfl)) (powZ 5 k1 _ aA aC aC aA (acA hm1 hk1).2 _) ?_;iterate 11 refine AX ?_
  refine .cl rfl C106 (evs2 rfl rfl) (mulB m1 (5^k1) (afO hm1) (acA hm1 hk1).2 (acA hm1 hk1).1 _) ?_;iterate 10 refine AX ?_
  exact⟨rfl,(zR rfl (by(unfold ofR;rw[aJ,hse];done)) (zR rfl (by(unfold ofX;rw[aJ,hse];done)) sX)),rfl⟩
 refine .sub [(1,_),(7,_),(0,_),(6,_)] sX ?_;have hRB:=btM hm he;have hX:=bbR (m:=m) he;iterate 4 refine AX ?_
 refine .cl rfl call109 (evs1 rfl) (apI (ofR m e) hRB _) ?_;refine AX ?_;refine .cl rfl C71 (evs3 rfl rfl rfl) (akK neg (dec (ofR m e)) (ofX m e) (akH _) (bC (asV hRB) aC) aA _) ?_;iterate 3 refine AX ?_
 refine .al zr61 (λb10 hb10=>?_);have hn6_10:=Heap.ne_of (oS _ _ _) hb10;iterate 4 refine AX ?_
 refine .frz (t:=10) rfl (hb10) ?_;iterate 6 refine AX ?_
 refine .frz (t:=6) rfl (hb6) ?_;iterate 2 refine AX ?_
 refine⟨?_,rfl⟩;rw[btO];rfl
def yS(x:Nat):(Bool×List UInt8×Int)×Int:=if 3≤yK x then((false,[],0),11)else(ofN (alN x) (yA x) (zP x),0)
def axD(x n:Nat):(Bool×List UInt8×Int)×Int:=if 3≤yK x then((false,[],0),11)else cfY (yS x).1.1 (yS x).1.2.1 (yS x).1.2.2 n
theorem amQ(neg:Bool)(m:Nat)(e:Int):yE (ofN neg m e).2.1 (ofN neg m e).2.2=true:=by
 rw[btO];exact amS (akH _)
theorem bkP(x:Nat):(yS x).2=if 3≤yK x then 11 else 0:=by unfold yS;split<;>rfl
theorem qP(x:Nat):yE (yS x).1.2.1 (yS x).1.2.2=true:=by
 unfold yS;split
 ·rfl
 exact amQ _ _ _
theorem auF(x:Nat)(hx:x<18446744073709551616):Fn 38 [.int .u64 (x:Int)] (dT (yS x)):=by
 intro H;have hpm:=acN x;have hpe:=aaZ x;refine .of_body func38 rfl ntmps38 results38 rfl ?_;iterate 2 refine AX ?_
 refine .al zr61 (λb2 hb2=>?_);iterate 7 refine AX ?_
 refine .cl rfl C31 (evs1 rfl) (acY x hx _) ?_;iterate 3 refine AX ?_
 refine .cx rfl (λhc9=>?_) (λhc9=>?_)
 ·iterate 2 refine AX ?_
  refine .p rfl (yU zr61 pl61 .nil rfl) ?_;iterate 4 refine AX ?_
  refine .frz (t:=2) rfl (hb2) ?_;iterate 3 refine AX ?_
  refine⟨?_,rfl⟩;unfold yS;rw[aK];rfl
 iterate 5 refine AX ?_
 refine .cl rfl C91 (evs1 rfl) (aiL x hx _) ?_;iterate 13 refine AX ?_
 refine .cl rfl C93 (evs1 rfl) (aeA (yA x) aA _) ?_;refine AX ?_;refine .cl rfl call92 (evs3 rfl rfl rfl) (apX (alN x) (yA x) (zP x) aA hpe _) ?_;iterate 4 refine AX ?_
 refine .frz (t:=2) rfl (hb2) ?_;iterate 2 refine AX ?_
 refine⟨?_,rfl⟩;unfold yS;rw[aJ];rfl
theorem bkY(x:Nat)(hx:x<18446744073709551616)(n:Nat)(hn:0<n)(hn2:n≤100000):Fn 87 [.int .u64 (x:Int),.int .i64 (n:Int),.int .i64 1] (dT (axD x n)):=by
 intro H;refine .of_body func87 rfl ntmps87 results87 rfl ?_;iterate 2 refine AX ?_
 refine .al zr61 (λb6 hb6=>?_);iterate 6 refine AX ?_
 refine .cl rfl call38 (evs1 rfl) (auF x hx _) ?_;iterate 3 refine AX ?_
 refine .al zr61 (λb8 hb8=>?_);have hn6_8:=Heap.ne_of (oS _ _ _) hb8;iterate 4 refine AX ?_
 refine .frz (t:=8) rfl (hb8) ?_;iterate 7 refine AX ?_
 refine .cx rfl (λhc16=>?_) (λhc16=>?_)
 ·have hk3:3≤yK x:=by rcases bX (yK x) 3 with h|h;exact absurd (show(yS x).2=0 by unfold yS;rw[aJ]) aB;exact h
  iterate 8 refine AX ?_
  refine .frz (t:=6) rfl (hb6) ?_;iterate 3 refine AX ?_
  refine⟨?_,rfl⟩;unfold axD;rw[aN hk3];rw[show yS x=((false,[],0),11) by unfold yS;rw[aN hk3]];rfl
 have hk3:¬3≤yK x:=λh=>by rw[bkP,aN h]at hc16;exact absurd hc16 aC
 iterate 7 refine AX ?_
 refine .cl rfl call164 (evs3 rfl rfl rfl) (bwX _ _ _ n (qP x) hn hn2 _) ?_;iterate 6 refine AX ?_
 refine .frz (t:=6) rfl (hb6) ?_;iterate 2 refine AX ?_
 refine⟨?_,rfl⟩;unfold axD;rw[aM hk3];rfl
def cdL(neg:Bool)(m0 k0 b:Nat)(H:Heap):Nat→Env→Heap→Prop:=λk env H1=>∃m k1:Nat,m<18014398509481984∧k1≤1075∧afZ m k1=afZ m0 k0∧env=[(0,.bool neg),(1,qX m),(2,.int .i64 (-(k1:Int))),(6,.ptr (some ⟨b,0,none⟩))]∧H1=H.set b (.box 61 [.bool false,.str [],.int .i64 0])∧k=k1
theorem blX(neg:Bool)(m:Nat)(e:Int)(hm:m<18014398509481984)(he: -1075≤e∧e≤972):Fn 115 [.bool neg,qX m,.int .i64 e] (dD (ofN neg m e)):=by
 intro H;have hmB:=afO hm;have hRB:=btM hm he;have hX:=bbR (m:=m) he;have hml:=yM hmB;have hrl:=yM hRB;refine .of_body func115 rfl ntmps115 results115 rfl ?_;iterate 2 refine AX ?_
 refine .al zr61 (λb6 hb6=>?_);iterate 9 refine AX ?_
 refine .cx rfl (λhc12=>?_) (λhc12=>?_)
 ·have hR2:m*2^e.toNat<BIG:=alY hm aA;iterate 5 refine AX ?_
  refine .cl rfl call81 (evs2 rfl rfl) (arJ (zF m) .shared (zH m) aA e.toNat aA e aA (by rw[zN];exact alY hm aA) _) ?_;simp only[zN];refine .cl rfl call126 (evs1 rfl) (amE (zF (m*2^e.toNat)) .shared (zH _) (by have:=yM hR2;omega) (by rw[zN];exact hR2) _) ?_;simp only[zN];refine .cl rfl C22 (.cons (tm rfl) (.cons (tm rfl) (.cons zJ .nil))) (acQ neg (dec (m*2^e.toNat)) 0 (akH _) (bC (asV hR2) aC) aC _) ?_;iterate 3 refine AX ?_
  refine .al zr61 (λb7 hb7=>?_);have hn6_7:=Heap.ne_of (oS _ _ _) hb7;iterate 4 refine AX ?_
  refine .frz (t:=7) rfl (hb7) ?_;iterate 6 refine AX ?_
  refine .frz (t:=6) rfl (hb6) ?_;iterate 3 refine AX ?_
  refine⟨?_,rfl⟩;unfold ofN;rw[aK];rfl
 have hen:e= -(((-e).toNat:Nat):Int):=by omega
 iterate 4 refine AX ?_
 refine .loopW (cdL neg m (-e).toNat b6 H) ((-e).toNat) ⟨m,(-e).toNat,hm,by omega,rfl,rfl,rfl,rfl⟩ (zK rfl (zK rfl (zR rfl (by rw[←hen]) (zK rfl yF)))) (hRa _) ?_;rintro _ _ _ ⟨m1,k1,hm1,hk1,hst,rfl,rfl,hk⟩;have hm1l:=yM (afO hm1);refine AX ?_;refine .seqTo 34 (.bool (decide (-(k1:Int)<0)&& !decide (((m1%2:Nat):Int)=1)&&decide ((0:Int)<((zF m1).length:Int)))) [0,1,2,6] ?_ ?_
 ·iterate 4 refine AX ?_
  refine zD (t:=25) rfl (λhg25=>?_) (λhg25=>?_)
  ·have hh25:=hg25;try simp only[aT]at hh25
   refine AX ?_;refine .gs rfl rfl rfl aB (zB C156 (.cons (tm rfl) (.cons zJ .nil)) (ahF (zF m1) .shared (zH m1) aA 0 aC 0 rfl _)) ?_;rintro _ _ ⟨rfl,hH⟩;obtain rfl:=hH.symm;rw[zN,eA,gI];iterate 3 refine AX ?_
   refine zD (t:=30) rfl (λhg30=>?_) (λhg30=>?_)
   ·have hh30:=hg30;try simp only[aR,fU]at hh30
    iterate 5 refine AX ?_
    exact⟨rfl,zS rfl (by(rw[show decide (-(k1:Int)<0)=_ from hg25,show(!decide (((m1%2:Nat):Int)=1))=_ from hg30];rfl)) sX,rfl⟩
   have hh30:=hg30;try simp only[aT,Bool.not_eq_false']at hh30
   iterate 5 refine AX ?_
   exact⟨rfl,zS rfl (by(rw[show decide (-(k1:Int)<0)=_ from hg25,show(!decide (((m1%2:Nat):Int)=1))=_ from hg30];rfl)) sX,rfl⟩
  have hh25:=hg25;try simp only[aR,cU]at hh25
  iterate 10 refine AX ?_
  exact⟨rfl,zS rfl (by(rw[show decide (-(k1:Int)<0)=_ from hg25];rfl)) sX,rfl⟩
 refine .sub [(34,_),(0,_),(1,_),(2,_),(6,_)] sX ?_;refine .cx rfl (λhc34=>?_) (λhc34=>?_)
 ·simp only[bN,fU,aT,aR]at hc34;obtain⟨⟨hk0,hb0⟩,hl0⟩:=hc34;have hm0:0<m1:=by rcases bF m1 with h|h;rw[h]at hl0;exact absurd hl0 aC;exact h
  have hst2:=biB (m:=m1) (k:=k1) aA hm0 aA;iterate 6 refine AX ?_
  refine .e rfl (yJ U135 Z210 V210 rfl (yB 2) (.inl rfl) ⟨rfl,rfl⟩) (.cl rfl call80 (evs2 rfl rfl) (aoX (zF m1) .shared (zH m1) aA [2] .full (Limbs.mk aC Limbs.nil) aC aC _) ?_);rw[zN,show val [2]=2 from rfl];iterate 13 refine AX ?_
  refine Round.mk ⟨m1/2,k1-1,by omega,by omega,by rw[←hst2];exact hst,rfl,rfl,rfl⟩ (zK rfl (zK rfl (zR rfl (by congr 1;omega) (zK rfl yF)))) (hRa _) aA
 simp only[cJ,Bool.not_eq_false',aT,aR]at hc34;have hse:afZ m1 k1=(m1,k1):=baC (by
   rcases bF m1 with h|h
   ·exact .inr (.inl h)
   have hnl:=ajY h;omega)
 rw[hst]at hse;iterate 13 refine AX ?_
 refine .cx rfl (λhc45=>?_) (λhc45=>?_)
 ·iterate 3 refine AX ?_
  refine .p rfl (yU zr61 pl61 (.cons (tm rfl) (.inl rfl) .nil) rfl) ?_;iterate 3 refine AX ?_
  refine .frz (t:=6) rfl (hb6) ?_;iterate 3 refine AX ?_
  refine⟨?_,rfl⟩;have hm10:m1=0:=atY.1 aA;unfold ofN;rw[aJ,hse,hm10,dO,chE];rfl
 iterate 8 refine AX ?_
 refine .cl rfl call205 (evs1 rfl) (baX k1 aA _ aA (acA hm1 hk1).2 _) ?_;refine .cl rfl C77 (evs2 rfl rfl) (aeE (zF m1) .shared (zH m1) aA (zF (5^k1)) .shared (zH _) (by have:=yM (acA hm1 hk1).2;omega) _) ?_;simp only[zN];refine .cl rfl call126 (evs1 rfl) (amE (zF (m1*5^k1)) .shared (zH _) (by have:=yM (acA hm1 hk1).1;omega) (by rw[zN];exact(acA hm1 hk1).1) _) ?_;simp only[zN];refine AX ?_;refine .cl rfl C22 (evs3 rfl rfl rfl) (acQ neg (dec (m1*5^k1)) (-(k1:Int)) (akH _) (bC (asV (acA hm1 hk1).1) aC) aA _) ?_;iterate 3 refine AX ?_
 refine .al zr61 (λb9 hb9=>?_);have hn6_9:=Heap.ne_of (oS _ _ _) hb9;iterate 4 refine AX ?_
 refine .frz (t:=9) rfl (hb9) ?_;iterate 6 refine AX ?_
 refine .frz (t:=6) rfl (hb6) ?_;iterate 2 refine AX ?_
 refine⟨?_,rfl⟩;unfold ofN;rw[aJ,hse];rfl
theorem axP(x:Nat)(hx:x<18446744073709551616):Fn 113 [.int .u64 (x:Int)] (.bool (decide ((yK x:Int)<3))):=by
 intro H;refine .of_body func113 rfl ntmps113 results113 rfl ?_;iterate 8 refine AX ?_
 refine .cl rfl C17 (evs1 rfl) (aiB x hx _) ?_;iterate 6 refine AX ?_
 exact⟨rfl,rfl⟩
theorem beG(x:Nat)(hx:x<18446744073709551616):Fn 47 [.int .u64 (x:Int)] (dT (yS x)):=by
 intro H;have hpm:=acN x;have hpe:=aaZ x;refine .of_body func47 rfl ntmps47 results47 rfl ?_;iterate 2 refine AX ?_
 refine .al zr61 (λb2 hb2=>?_);iterate 6 refine AX ?_
 refine .cl rfl call113 (evs1 rfl) (axP x hx _) ?_;iterate 10 refine AX ?_
 refine .cx rfl (λhc11=>?_) (λhc11=>?_)
 ·iterate 2 refine AX ?_
  refine .p rfl (yU zr61 pl61 .nil rfl) ?_;iterate 4 refine AX ?_
  refine .frz (t:=2) rfl (hb2) ?_;iterate 3 refine AX ?_
  refine⟨?_,rfl⟩;unfold yS;rw[aK];rfl
 iterate 5 refine AX ?_
 refine .cl rfl call114 (evs1 rfl) (bbG x hx _) ?_;iterate 13 refine AX ?_
 refine .cl rfl call116 (evs1 rfl) (bmO (yA x) aA _) ?_;refine AX ?_;refine .cl rfl call115 (evs3 rfl rfl rfl) (blX (alN x) (yA x) (zP x) aA hpe _) ?_;iterate 4 refine AX ?_
 refine .frz (t:=2) rfl (hb2) ?_;iterate 2 refine AX ?_
 refine⟨?_,rfl⟩;unfold yS;rw[aJ];rfl
end
section
open Go Go.RowKit
set_option maxRecDepth 100000
structure Loc where
 name:List UInt8
 dc:List UInt8
 grp:List UInt8
 lst:List UInt8
 minus:List UInt8
 pct:List UInt8
 cur:List UInt8
 first:Bool
 space:Bool
 second:Nat
def pL(l:Loc)(sz:AV):AV:=.agg [.str l.name,.str l.dc,.str l.grp,.str l.lst,.str l.minus,.str l.pct,.str l.cur,.bool l.first,.bool l.space,sz]
def rL(l:Loc):AV:=.agg [.str l.name,.str l.dc,.str l.grp,.str l.lst,.str l.minus,.str l.pct,.str l.cur,.bool l.first,.bool l.space,.int .i64 (l.second:Int)]
def Loc.ok(l:Loc):Prop:=l.dc.length≤10∧l.grp.length≤10∧l.minus.length≤10∧l.cur.length≤10∧l.pct.length≤10
def abF(ds:List UInt8)(p:Int):(List UInt8×List UInt8)×Bool:=
 if 400<p∨400<(ds.length:Int)-p then(([],[]),false)
 else if p≤0 then(([48],List.replicate (-p).toNat 48++ds),true)
 else if(ds.length:Int)≤p then((ds++List.replicate (p-ds.length).toNat 48,[]),true)
 else((ds.take p.toNat,ds.drop p.toNat),true)
def akR(l:Loc)(neg:Bool)(ds:List UInt8)(p:Int):List UInt8:=
 if(abF ds p).2=true then(if neg=true then l.minus else [])++((abF ds p).1.1++(if(abF ds p).1.2=[]then []else l.dc++(abF ds p).1.2))else []
theorem baM{p:Int}(hl:ds.length≤1100):(abF ds p).1.1.length≤2000∧(abF ds p).1.2.length≤2000:=by
 unfold abF;split
 ·simp
 split
 ·simp only[aO,bE,aW,bG];omega
 split
 ·simp only[aO,bE,bG];omega
 simp only[aV,bO];omega
theorem bqD{l:Loc}{neg:Bool}{p:Int}(hl:ds.length≤1100)(hk:l.ok):(akR l neg ds p).length≤5000:=by
 have h:=baM (p:=p) hl;obtain⟨h1,h2,h3,h4,h5⟩:=hk;unfold akR;split
 ·simp only[aO];have a1:(if neg=true then l.minus else []).length≤10:=by split<;>first|omega|(simp;done)|(simp;omega)
  have a2:(if(abF ds p).1.2=[]then []else l.dc++(abF ds p).1.2).length≤2010:=by split<;>first|omega|(simp;done)|(simp;omega)
  omega
 simp
theorem qU{e:Int}(h:yE ds e=true):zU ds e=(ds.length:Int)+e:=by unfold zU;rw[aN h]
theorem beA(neg:Bool)(ds:List UInt8)(e:Int)(hr:yE ds e=true):Fn 165 [dA neg ds e] (.tuple [.str (abF ds ((ds.length:Int)+e)).1.1,.str (abF ds ((ds.length:Int)+e)).1.2,.bool (abF ds ((ds.length:Int)+e)).2]):=by
 intro H;have hpd:=qU hr;have hrl:=yX hr;have hdd:=qC hr;have hml:=zQ;generalize hpp:(ds.length:Int)+e=p at *;refine .of_body func165 rfl ntmps165 results165 rfl ?_;iterate 9 refine AX ?_
 refine .draw [(0,true),(2,true),(3,true),(4,true),(1,false),(5,true),(6,true)] rfl aE ?_;refine AX ?_;refine .p rfl rfl (zA U61 rfl Z9 (tm rfl)) ?_;iterate 2 refine AX ?_
 refine .s rfl rfl (zB C88 (evs1 rfl) (acT neg ds e hdd _)) ?_;rintro _ _ ⟨rfl,hH⟩;obtain rfl:=hH.symm;rw[hpd];iterate 13 refine AX ?_
 refine .cx rfl (λhc12=>?_) (λhc12=>?_)
 ·iterate 11 refine AX ?_
  refine⟨?_,rfl⟩;unfold abF;have hn0:ds=[]:=dI.1 aA;have he0:p=0:=by rw[hn0]at hpp;have he:=hr;rw[hn0]at he;unfold yE at he;rw[aN rfl]at he;have:=of_decide_eq_true he;simp only[bG]at hpp;omega
  rw[hn0,he0];rfl
 refine .seqTo 15 (.bool (decide ((400:Int)<p)||decide ((400:Int)<(ds.length:Int)-p))) [1,2,3,4,5,6] ?_ ?_
 ·iterate 4 refine AX ?_
  refine zD (t:=18) rfl (λhg18=>?_) (λhg18=>?_)
  ·have hh18:=hg18;try simp only[aT]at hh18
   iterate 7 refine AX ?_
   exact⟨rfl,zS rfl (by(rw[show decide ((400:Int)<p)=_ from hg18];rfl)) sX,rfl⟩
  have hh18:=hg18;try simp only[aR,cU]at hh18
  iterate 7 refine AX ?_
  exact⟨rfl,zS rfl (by(rw[show decide ((400:Int)<p)=_ from hg18];rfl)) sX,rfl⟩
 refine .sub [(15,_),(1,_),(2,_),(3,_),(4,_),(5,_),(6,_)] sX ?_;refine .cx rfl (λhc15=>?_) (λhc15=>?_)
 ·simp only[dB,aT]at hc15;iterate 11 refine AX ?_
  refine⟨?_,rfl⟩;unfold abF;rw[aN hc15];rfl
 simp only[dQ,aR]at hc15;iterate 7 refine AX ?_
 refine .cx rfl (λhc24=>?_) (λhc24=>?_)
 ·refine AX ?_;refine .draw [(0,true),(1,true),(3,true),(4,true),(2,false),(5,true),(6,true),(7,true),(8,true)] rfl aE ?_;iterate 2 refine AX ?_
  refine .p rfl rfl (zA U61 rfl Z9 (tm rfl)) ?_;refine AX ?_;refine .s rfl rfl (zB C103 (.cons (zO rfl) (evs1 rfl)) (repeatZ 48 _ (-p).toNat aA aA _)) ?_;rintro _ _ ⟨rfl,hH⟩;obtain rfl:=hH.symm;refine .p rfl rfl (zY (tm rfl) (tm rfl) (by rw[zQ,bE];omega)) ?_;iterate 9 refine AX ?_
  refine⟨?_,rfl⟩;unfold abF;rw[aJ,aK];rfl
 iterate 8 refine AX ?_
 refine .cx rfl (λhc33=>?_) (λhc33=>?_)
 ·refine AX ?_;refine .draw [(0,true),(1,true),(2,true),(3,true),(4,true),(5,false),(6,true),(7,true),(8,true),(9,true)] rfl aE ?_;refine .p rfl rfl (zA U61 rfl Z9 (tm rfl)) ?_;iterate 4 refine AX ?_
  refine .s rfl rfl (zB C103 (.cons (zO rfl) (evs1 rfl)) (repeatZ 48 _ (p-ds.length).toNat aA aA _)) ?_;rintro _ _ ⟨rfl,hH⟩;obtain rfl:=hH.symm;refine .p rfl rfl (zY (tm rfl) (tm rfl) (by rw[zQ,bE];omega)) ?_;iterate 9 refine AX ?_
  refine⟨?_,rfl⟩;unfold abF;rw[aJ,aJ,aK];rfl
 iterate 4 refine AX ?_
 refine .draw [(0,true),(1,true),(2,true),(3,true),(4,true),(5,true),(6,true),(7,true),(8,true),(9,true),(10,true)] rfl aE ?_;refine .p rfl rfl (zA U61 rfl Z9 (tm rfl)) ?_;iterate 3 refine AX ?_
 refine .p rfl rfl (zA U61 rfl Z9 (tm rfl)) ?_;iterate 10 refine AX ?_
 refine⟨?_,rfl⟩;unfold abF;rw[aJ,aJ,aJ];rfl
theorem atD(l:Loc)(hk:l.ok)(sz:AV)(neg:Bool)(ds:List UInt8)(e:Int)(hr:yE ds e=true):Fn 89 [pL l sz,dA neg ds e,.bool false] (.str (akR l neg ds ((ds.length:Int)+e))):=by
 intro H;have hsl:=baM (ds:=ds) (p:=(ds.length:Int)+e) (yX hr).1;have hml:=zQ;have hdd:=qC hr;obtain⟨hk1,hk2,hk3,hk4,hk5⟩:=hk;generalize hsv:abF ds ((ds.length:Int)+e)=sv at *;obtain⟨⟨w,r⟩,ok⟩:=sv;obtain⟨hsl1,hsl2⟩:=hsl;simp only[]at hsl1 hsl2;refine .of_body func89 rfl ntmps89 results89 rfl ?_;iterate 10 refine AX ?_
 refine .cl rfl call165 (evs1 rfl) (beA neg ds e hr _) ?_;rw[hsv]
 dsimp only
 iterate 10 refine AX ?_
 refine .seqTo 22 (.bool (!ok)) [2,3,4,6,7,8] ?_ ?_
 ·iterate 4 refine AX ?_
  refine zD (t:=18) rfl (λhg18=>?_) (λhg18=>?_)
  ·have hh18:=hg18;try simp only[fU]at hh18
   iterate 5 refine AX ?_
   exact⟨rfl,zS rfl (by(cases ok<;>first|rfl|(simp at hg18))) sX,rfl⟩
  have hh18:=hg18;try simp only[Bool.not_eq_false']at hh18
  refine AX ?_;refine .gs rfl rfl rfl aB (zB C152 (evs1 rfl) (adW neg ds e hdd _)) ?_;rintro _ _ ⟨rfl,hH⟩;obtain rfl:=hH.symm;rw[hr];iterate 3 refine AX ?_
  exact⟨rfl,zS rfl (by(cases ok<;>first|rfl|(simp at hg18))) sX,rfl⟩
 refine .sub [(22,_),(2,_),(3,_),(4,_),(6,_),(7,_),(8,_)] sX ?_;refine .cx rfl (λhc22=>?_) (λhc22=>?_)
 ·iterate 8 refine AX ?_
  refine⟨?_,rfl⟩;unfold akR;rw[hsv];simp only[];rw[aM (show¬ok=true by simpa using hc22)];rfl
 iterate 8 refine AX ?_
 refine .cond_false (tm rfl) aD ?_;iterate 2 refine AX ?_
 refine .seqToL [(7,.str ((if neg=true then l.minus else [])++w))] [3,6,8] ?_ ?_
 ·iterate 2 refine AX ?_
  refine .p rfl (zA U61 rfl Z4 (tm rfl)) ?_;iterate 3 refine AX ?_
  refine .cx rfl (λhc28=>?_) (λhc28=>?_)
  ·refine AX ?_;refine .p rfl (zA U32 rfl Z9 (tm rfl)) ?_;iterate 2 refine AX ?_
   refine .p rfl (zY (tm rfl) (tm rfl) (by rw[zQ];omega)) ?_;iterate 2 refine AX ?_
   exact⟨rfl,(zR rfl (by(rw[aN aB];done)) sX),rfl⟩
  refine AX ?_;exact⟨rfl,(zR rfl (by(rw[aM (by(rw[hc28];decide))];rfl)) sX),rfl⟩
 refine .sub [(7,_),(3,_),(6,_),(8,_)] sX ?_;have hmw:(if neg=true then l.minus else []).length≤10:=by split<;>first|omega|(simp;done)|(simp;omega)
 iterate 7 refine AX ?_
 refine .cx rfl (λhc34=>?_) (λhc34=>?_)
 ·iterate 2 refine AX ?_
  refine .p rfl (zA U32 rfl Z9 (tm rfl)) ?_;iterate 2 refine AX ?_
  refine .p rfl (zY (tm rfl) (tm rfl) (by rw[zQ];omega)) (.p rfl (zY (tm rfl) (tm rfl) (by simp only[zQ,aO];first|omega|(split<;>first|omega|(simp;done)|(simp;omega)))) ?_);iterate 11 refine AX ?_
  refine⟨?_,rfl⟩;unfold akR;rw[hsv];simp only[];rw[aN (show ok=true by simpa using hc22),aM (show¬r=[] by simpa using hc34),bK];rfl
 iterate 10 refine AX ?_
 refine⟨?_,rfl⟩;unfold akR;rw[hsv];simp only[];rw[aN (show ok=true by simpa using hc22),aN (show r=[] by simpa using hc34),bU];rfl
end
section
open Go Go.RowKit
set_option maxRecDepth 100000
theorem itoaZ(q:Int)(n:Nat)(hq:q=(n:Int))(hn:n≤9223372036854775807):Fn 90 [.int .i64 q] (.str (dec n)):=by
 intro H;subst hq;exact itoaA n hn H
def bbY(l:Loc)(neg:Bool)(ds:List UInt8):List UInt8:=(if neg=true then l.minus else [])++ds.take 1++(if(1:Int)<(ds.length:Int)then l.dc++ds.drop 1 else [])
def bkL(p:Int):Nat:=(if p<1 then 1-p else p-1).toNat
def bxP(l:Loc)(s:(Bool×List UInt8×Int)×Int):List UInt8:=
 if s.2≠0 then []
 else if s.1.2.1=[]∨(-4≤(s.1.2.1.length:Int)+s.1.2.2∧(s.1.2.1.length:Int)+s.1.2.2≤15)then akR l s.1.1 s.1.2.1 ((s.1.2.1.length:Int)+s.1.2.2)
 else bbY l s.1.1 s.1.2.1++[69]++[if(s.1.2.1.length:Int)+s.1.2.2<1 then 45 else 43]++(if(dec (bkL ((s.1.2.1.length:Int)+s.1.2.2))).length<2 then [48]else [])++dec (bkL ((s.1.2.1.length:Int)+s.1.2.2))
theorem bqC{l:Loc}{neg:Bool}(h:ds≠[])(hl:ds.length≤300):akR l neg ds 1=bbY l neg ds:=by
 have hp:=bV.2 h;unfold akR bbY abF;rw[aM (show¬((400:Int)<1∨400<(ds.length:Int)-1) by omega),aM (show¬(1:Int)≤0 by decide)];by_cases h1:(ds.length:Int)≤1
 ·rw[aN h1,aM (show¬(1:Int)<(ds.length:Int) by omega),aY (show ds.length≤1 by omega)];rw[show((1:Int)-(ds.length:Int)).toNat=0 by omega];simp
 rw[aM h1,aN (show(1:Int)<(ds.length:Int) by omega)];have hd:ds.drop 1≠[]:=λq=>by have:=congrArg List.length q;rw[bO]at this;simp only[bG]at this;omega
 show(if true=true then _++(ds.take 1++(if ds.drop 1=[]then []else l.dc++ds.drop 1))else [])=_;rw[aN rfl,aM hd,bK]
theorem auS(x n:Nat):yE (axD x n).1.2.1 (axD x n).1.2.2=true:=by
 unfold axD;split
 ·rfl
 unfold cfY;split
 ·exact qP x
 unfold bpC;have hd:=qC (qP x);exact amS (by split;exact ahP (hd.take _);exact hd.take _)
theorem ckV(neg:Bool)(ds:List UInt8)(e:Int):(mkN neg ds e).1.2.1.length≤ds.length:=by
 have h:(abE ds).length≤ds.length:=bC (afK _ _) (asS _ _);unfold mkN;split
 ·simp
 split
 ·exact h
 simp
theorem biF(x n:Nat):(axD x n).1.2.1.length≤n+1:=by
 unfold axD;split
 ·simp
 unfold cfY;split
 ·rename_i h;exact Nat.le_succ_of_le h
 unfold bpC;refine bC (ckV _ _ _) ?_;split
 ·refine bC (akB _) ?_;rw[aV];omega
 rw[aV];omega
theorem anJ(l:Loc)(hk:l.ok)(sz:AV)(x:Nat)(hx:x<18446744073709551616):Fn 37 [.int .u64 (x:Int),pL l sz] (.str (bxP l (axD x 15))):=by
 intro H;have hsr:=auS x 15;have hsl:=biF x 15;generalize hs:axD x 15=s at *;obtain⟨⟨neg,ds,e⟩,er⟩:=s
 dsimp only at hsr hsl
 have hml:=zQ;have hrl:=yX hsr;have hdd:=qC hsr;have hpd:=qU hsr;have hwl:=bqD (l:=l) (neg:=neg) (ds:=ds) (p:=(ds.length:Int)+e) aA hk;have hkk:=hk;obtain⟨hk1,hk2,hk3,hk4,hk5⟩:=hkk;have hel:(dec (bkL ((ds.length:Int)+e))).length≤10:=(afX aC).2 (by unfold bkL;split<;>omega);have hmn:(bbY l neg ds).length≤200:=by
  unfold bbY;have a1:(if neg=true then l.minus else []).length≤10:=by split<;>first|omega|(simp;done)
  have a2:(if(1:Int)<(ds.length:Int)then l.dc++ds.drop 1 else []).length≤110:=by split<;>simp only[aO,bO,bG]<;>omega
  simp only[aO,aV];omega
 have hzl:(if(dec (bkL ((ds.length:Int)+e))).length<2 then([48]:List UInt8)else []).length≤1:=by split<;>simp
 refine .of_body func37 rfl ntmps37 results37 rfl ?_;iterate 9 refine AX ?_
 refine .cl rfl call87 (.cons (tm rfl) (.cons zJ (.cons zJ .nil))) (bkY x hx 15 aC aC _) ?_;rw[hs];unfold dT
 dsimp only
 iterate 3 refine AX ?_
 refine .al zr61 (λb5 hb5=>?_);iterate 4 refine AX ?_
 refine .frz (t:=5) rfl (hb5) ?_;iterate 7 refine AX ?_
 refine .cx rfl (λhc16=>?_) (λhc16=>?_)
 ·iterate 8 refine AX ?_
  refine⟨?_,rfl⟩;unfold bxP
  dsimp only
  rw[aN (show er≠0 by simpa using hc16)];rfl
 have her:er=0:=by simpa using hc16
 subst her;iterate 5 refine AX ?_
 refine .cl rfl C88 (evs1 rfl) (acT neg ds e hdd _) ?_;rw[hpd];iterate 4 refine AX ?_
 refine .seqTo 29 (.bool (decide (ds=[])||(decide (-4≤((ds.length:Int)+e))&&decide (((ds.length:Int)+e)≤15)))) [3,4,5,7] ?_ ?_
 ·refine AX ?_;refine .p rfl (zA U61 rfl Z9 (tm rfl)) ?_;iterate 3 refine AX ?_
  refine zD (t:=22) rfl (λhg22=>?_) (λhg22=>?_)
  ·have hh22:=hg22;try simp only[aT]at hh22
   iterate 8 refine AX ?_
   exact⟨rfl,zS rfl (by(rw[show decide (ds=[])=_ from hg22];rfl)) sX,rfl⟩
  have hh22:=hg22;try simp only[aR]at hh22
  iterate 3 refine AX ?_
  refine zD (t:=25) rfl (λhg25=>?_) (λhg25=>?_)
  ·have hh25:=hg25;try simp only[aT]at hh25
   iterate 5 refine AX ?_
   exact⟨rfl,zS rfl (by(rw[show decide (ds=[])=_ from hg22,show decide (-4≤((ds.length:Int)+e))=_ from hg25];rfl)) sX,rfl⟩
  have hh25:=hg25;try simp only[aR,Int.not_le]at hh25
  iterate 5 refine AX ?_
  exact⟨rfl,zS rfl (by(rw[show decide (ds=[])=_ from hg22,show decide (-4≤((ds.length:Int)+e))=_ from hg25];rfl)) sX,rfl⟩
 refine .sub [(29,_),(3,_),(4,_),(5,_),(7,_)] sX ?_;refine .cx rfl (λhc29=>?_) (λhc29=>?_)
 ·simp only[dB,bN,aT]at hc29;iterate 4 refine AX ?_
  refine .cl rfl call89 (.cons (tm rfl) (.cons (tm rfl) (.cons zT .nil))) (atD l hk sz neg ds e hsr _) ?_;iterate 6 refine AX ?_
  refine⟨?_,rfl⟩;unfold bxP
  dsimp only
  rw[aM (show¬((0:Int)≠0) by simp),aN hc29];rfl
 simp only[dQ,cJ,aR]at hc29;have hdn:ds≠[]:=hc29.1;have hdp:=bV.2 hdn;have hr1:yE ds (1-(ds.length:Int))=true:=by
  have h:=hsr;rw[arE hdn]at h ⊢;unfold arF at h ⊢;simp only[bN,aT]at h ⊢;refine⟨⟨⟨⟨⟨h.1.1.1.1.1,by omega⟩,by omega⟩,h.1.1.2⟩,h.1.2⟩,h.2⟩
 iterate 5 refine AX ?_
 refine .p rfl (zA U61 rfl Z4 (tm rfl)) ?_;refine AX ?_;refine .p rfl (zA U61 rfl Z9 (tm rfl)) ?_;refine AX ?_;refine .p rfl (zA U61 rfl Z9 (tm rfl)) ?_;iterate 3 refine AX ?_
 refine .p rfl (yU zr61 pl61 (.cons (tm rfl) (.inl rfl) (.cons (tm rfl) (.inl rfl) (.cons (tm rfl) (.inl rfl) .nil))) rfl) (.cl rfl call89 (.cons (tm rfl) (.cons (tm rfl) (.cons zT .nil))) (atD l hk sz neg ds (1-(ds.length:Int)) hr1 _) ?_);rw[show(ds.length:Int)+(1-(ds.length:Int))=1 by omega,bqC hdn aA];refine .p rfl (zY (tm rfl) (zO rfl) (by rw[zQ];simp only[aW,bG];omega)) ?_;iterate 10 refine AX ?_
 refine .cl rfl C90 (evs1 rfl) (itoaZ _ (bkL ((ds.length:Int)+e)) (by unfold bkL;simp only[anA];split<;>split<;>omega) (by unfold bkL;split<;>omega) _) ?_;iterate 3 refine AX ?_
 refine .seqToL [(8,.str (bbY l neg ds++[69]++[if((ds.length:Int)+e)<1 then 45 else 43]))] [4,9] ?_ ?_
 ·iterate 6 refine AX ?_
  refine .cx rfl (λhc52=>?_) (λhc52=>?_)
  ·iterate 2 refine AX ?_
   refine .p rfl (zY (tm rfl) (zO rfl) (by rw[zQ];simp only[aO,aW,bG];omega)) ?_;iterate 2 refine AX ?_
   exact⟨rfl,(zR rfl (by(rw[aN aB];done)) sX),rfl⟩
  iterate 2 refine AX ?_
  refine .p rfl (zY (tm rfl) (zO rfl) (by rw[zQ];simp only[aO,aW,bG];omega)) ?_;iterate 2 refine AX ?_
  exact⟨rfl,(zR rfl (by(rw[aJ];done)) sX),rfl⟩
 refine .sub [(8,_),(4,_),(9,_)] sX ?_;refine .seqToL [(8,.str (bbY l neg ds++[69]++[if((ds.length:Int)+e)<1 then 45 else 43]++(if(dec (bkL ((ds.length:Int)+e))).length<2 then([48]:List UInt8)else [])))] [4,9] ?_ ?_
 ·iterate 7 refine AX ?_
  refine .cx rfl (λhc59=>?_) (λhc59=>?_)
  ·iterate 2 refine AX ?_
   refine .p rfl (zY (tm rfl) (zO rfl) (by rw[zQ];simp only[aO,aW,bG];omega)) ?_;iterate 2 refine AX ?_
   exact⟨rfl,(zR rfl (by(rw[aN (show(dec (bkL ((ds.length:Int)+e))).length<2 by omega)];done)) sX),rfl⟩
  refine AX ?_;exact⟨rfl,(zR rfl (by(rw[aM (show¬(dec (bkL ((ds.length:Int)+e))).length<2 by omega),bU];done)) sX),rfl⟩
 refine .sub [(8,_),(4,_),(9,_)] sX ?_;iterate 4 refine AX ?_
 refine .p rfl (zY (tm rfl) (tm rfl) (by rw[zQ];simp only[aO,aW,bG];omega)) ?_;iterate 5 refine AX ?_
 refine⟨?_,rfl⟩;unfold bxP
 dsimp only
 rw[aM (show¬((0:Int)≠0) by simp),aM (show¬(ds=[]∨(-4≤((ds.length:Int)+e)∧((ds.length:Int)+e)≤15)) by rintro(q|q);exact hdn q;omega)];rfl
end
end Go.Proofs.YteedncdcbgplfaaGreatDoor
