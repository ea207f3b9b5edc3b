import Derived.Test.YtmmgbnolccpjoaaGreatDoorD1
set_option maxHeartbeats 1000000
namespace Go.Proofs.YtmmgbnolccpjoaaGreatDoor
open Go.Proofs.Tryz
open Go Go.RowKit
variable{i k m:Nat}{ds:List UInt8}
section
set_option maxRecDepth 100000
def ahT:Nat→Nat→Nat×Nat
 |m,0=>(m,0)
 |m,k+1=>if m%2=0∧0<m then ahT (m/2) k else(m,k+1)
theorem arP:∀(k m:Nat),(ahT m k).1≤m∧(ahT m k).2≤k
 |0,m=>⟨aV _,aV _⟩
 |k+1,m=>by
  unfold ahT;split
  ·have:=arP k (m/2);omega
  exact⟨aV _,aV _⟩
theorem blU(h:m%2=0)(hm:0<m)(hk:0<k):ahT m k=ahT (m/2) (k-1):=by
 obtain⟨k,rfl⟩:∃q,k=q+1:=⟨k-1,by omega⟩;rw[ahT,aN ⟨h,hm⟩];rfl
theorem bdA(h:k=0∨m=0∨m%2≠0):ahT m k=(m,k):=by
 cases k with
 |zero=>rfl
 |succ k=>rw[ahT,aI]
def ofN(neg:Bool)(m:Nat)(e:Int):Bool×List UInt8×Int:=
 if 0≤e then(mkN neg (dec (m*2^e.toNat)) 0).1 else(mkN neg (dec ((ahT m (-e).toNat).1*5^(ahT m (-e).toNat).2)) (-((ahT m (-e).toNat).2:Int))).1
def ofR(m:Nat)(e:Int):Nat:=if 0≤e then m*2^e.toNat else(ahT m (-e).toNat).1*5^(ahT m (-e).toNat).2
def ofX(m:Nat)(e:Int):Int:=if 0≤e then 0 else-((ahT m (-e).toNat).2:Int)
theorem bwP(neg:Bool)(m:Nat)(e:Int):ofN neg m e=(mkN neg (dec (ofR m e)) (ofX m e)).1:=by
 unfold ofN ofR ofX;split<;>rfl
def dD(d:Bool×List UInt8×Int):AV:=dA d.1 d.2.1 d.2.2
theorem bdD(hk:k≤3300):18014398509481984*2^k<BIG:=by
 obtain⟨K,hK,hB⟩:∃K,K=8192∧BIG=2^K:=⟨32*256,rfl,awA _ rfl⟩;rw[hB,show(18014398509481984:Nat)=2^54 by decide,←bI];exact eC aC aA
theorem acQ(hm:m<18014398509481984)(hk:k≤1075):m*5^k<BIG∧5^k<BIG:=by
 have h1:5^k≤2^(3*k):=by rw[eE];exact Nat.pow_le_pow_left aC k
 have h0:5^k≤18014398509481984*5^k:=by omega
 have h2:18014398509481984*5^k<BIG:=aU (bV _ h1) (bdD aA);exact⟨aU (bC _ aA) h2,aU h0 h2⟩
theorem anE(hm:m<18014398509481984)(hk:k≤972):m*2^k<BIG:=by
 exact aU (bC _ aA) (bdD aA)
theorem akA(hm:m<18014398509481984):m<BIG:=cL hm (by unfold BIG;decide+kernel)
theorem bxH(h:0<m):(zE m).getD 0 0&&&1=m%2:=by
 rw[qR h,cI,show(1:Nat)=2^1-1 by decide,dC];omega
theorem awN:(zE m).length=0↔m=0:=by
 constructor
 ·intro h;rcases bJ m with h0|h0
  ·exact h0
  have:=alD h0;omega
 rintro rfl;rfl
theorem bwO{e:Int}(hm:m<18014398509481984)(he: -1075≤e∧e≤972):ofR m e<BIG:=by
 unfold ofR;split
 ·exact anE hm aA
 have h:=arP (-e).toNat m;exact(acQ aA aA).1
theorem beW{e:Int}(he: -1075≤e∧e≤972): -1075≤ofX m e∧ofX m e≤0:=by
 unfold ofX;have h:=arP (-e).toNat m;omega
theorem shlZ(a s:Nat)(q:Int)(hq:q=(s:Int))(h:a*2^s<BIG)(hs:s<1000000000):Fn 272 [qL a,.int .i64 q] (.tuple [qL (a*2^s),.int .i64 0]):=by
 intro H;subst hq;exact shlB a s h hs H
theorem powZ(b n:Nat)(q:Int)(hq:q=(n:Int))(hb:2≤b)(hb2:b≤1000000)(hn2:n<1000000000)(h:b^n<BIG):Fn 268 [.int .i64 (b:Int),.int .i64 q] (.tuple [qL (b^n),.int .i64 0]):=by
 intro H;subst hq;exact avQ b n hb hb2 hn2 h H
theorem cjE(neg:Bool)(e:Int):(mkN neg (dec 0) e).1=(neg,[],0):=by
 unfold mkN;rw[aN (show adR (dec 0)=[] by rw[aoK aC];rfl)]
def clN(neg:Bool)(m0 k0 b:Nat)(H:Heap):Nat→Env→Heap→Prop:=λk env H1=>∃m k1:Nat,m<18014398509481984∧k1≤1075∧ahT m k1=ahT m0 k0∧env=[(0,.bool neg),(1,qL m),(2,.int .i64 (-(k1:Int))),(6,.ptr (some ⟨b,0,none⟩))]∧H1=H.set b (.box 58 [.bool false,.str [],.int .i64 0])∧k=k1
theorem btR(neg:Bool)(m:Nat)(e:Int)(hm:m<18014398509481984)(he: -1075≤e∧e≤972):Fn 229 [.bool neg,qL m,.int .i64 e] (dD (ofN neg m e)):=by
 intro H;have hmB:=akA hm;refine .of_body func229 rfl ntmps229 results229 rfl ?_;iterate 2 refine AX ?_
 refine .al zr58 (λb6 hb6=>?_);iterate 7 refine AX ?_
 refine .seqToL [(1,qL (ofR m e)),(7,.int .i64 (ofX m e))] [0,6] ?_ ?_
 ·iterate 6 refine AX ?_
  refine .cx rfl (λhc13=>?_) (λhc13=>?_)
  ·iterate 3 refine AX ?_
   refine .cl rfl C272 (evs2 rfl rfl) (shlZ m e.toNat e aA (anE hm aA) aA _) ?_;iterate 5 refine AX ?_
   exact⟨rfl,(zM rfl (by(unfold ofR;rw[aJ];done)) (zM rfl (by(unfold ofX;rw[aJ];done)) sX)),rfl⟩
  have hen:e= -(((-e).toNat:Nat):Int):=by omega
  iterate 2 refine AX ?_
  refine .loopW (clN neg m (-e).toNat b6 H) ((-e).toNat) ⟨m,(-e).toNat,hm,by omega,rfl,rfl,rfl,rfl⟩ (zI rfl (zI rfl (zM rfl (by rw[←hen]) (zI rfl yJ)))) (hRa _) ?_;rintro _ _ _ ⟨m1,k1,hm1,hk1,hst,rfl,rfl,hk⟩;have hg0:=Limbs.getD (zF m1) 0;refine AX ?_;refine .seqTo 33 (.bool (decide (-(k1:Int)<0)&&decide ((0:Int)<((zE m1).length:Int))&&decide (((((zE m1).getD 0 0&&&1:Nat)):Int)=((0:Nat):Int)))) [0,1,2,6] ?_ ?_
  ·iterate 4 refine AX ?_
   refine zC (t:=22) rfl (λhg22=>?_) (λhg22=>?_)
   ·have hh22:=hg22;try simp only[aO]at hh22
    iterate 5 refine AX ?_
    refine zC (t:=27) rfl (λhg27=>?_) (λhg27=>?_)
    ·have hh27:=hg27;try simp only[aO]at hh27
     refine AX ?_;refine .gp rfl rfl rfl aB (zW (0) U239 Z166 (tm rfl) zH aA aA) ?_;refine AX ?_;refine .gp rfl rfl rfl aB (axY (tm rfl) (zR 1) aB aA) ?_;iterate 3 refine AM ?_
     exact⟨rfl,zL rfl (by(rw[show decide (-(k1:Int)<0)=_ from hg22,show decide ((0:Int)<((zE m1).length:Int))=_ from hg27];rfl)) sX,rfl⟩
    have hh27:=hg27;try simp only[aM,cO]at hh27
    iterate 7 refine AX ?_
    exact⟨rfl,zL rfl (by(rw[show decide (-(k1:Int)<0)=_ from hg22,show decide ((0:Int)<((zE m1).length:Int))=_ from hg27];rfl)) sX,rfl⟩
   have hh22:=hg22;try simp only[aM,cO]at hh22
   iterate 12 refine AX ?_
   exact⟨rfl,zL rfl (by(rw[show decide (-(k1:Int)<0)=_ from hg22];rfl)) sX,rfl⟩
  refine .sub [(33,_),(0,_),(1,_),(2,_),(6,_)] sX ?_;refine .cx rfl (λhc33=>?_) (λhc33=>?_)
  ·simp only[bL,aO]at hc33;obtain⟨⟨hk0,hl0⟩,hb0⟩:=hc33;have hm0:0<m1:=by rcases bJ m1 with h|h;rw[h]at hl0;exact absurd hl0 aC;exact h
   rw[bxH hm0]at hb0;have hst2:=blU (m:=m1) (k:=k1) aA hm0 aA;iterate 6 refine AX ?_
   refine .cl rfl call276 (.cons (tm rfl) (.cons zH .nil)) (shrB m1 1 (akA hm1) aC _) ?_;iterate 14 refine AX ?_
   refine Round.mk ⟨m1/2,k1-1,by omega,by omega,by rw[←hst2];exact hst,rfl,rfl,rfl⟩ (zI rfl (zM rfl (by rw[gD]) (zM rfl (by congr 1;omega) (zI rfl yJ)))) (hRa _) aA
  simp only[bX,aM]at hc33;have hse:ahT m1 k1=(m1,k1):=bdA (by
    rcases bJ m1 with h|h
    ·omega
    have hnl:=alD h;rw[bxH h]at hc33;omega)
  rw[hst]at hse;iterate 9 refine AX ?_
  refine .cl rfl C268 (.cons zH (evs1 rfl)) (powZ 5 k1 _ aA aC aC aA (acQ hm1 hk1).2 _) ?_;iterate 11 refine AX ?_
  refine .cl rfl C269 (evs2 rfl rfl) (mulB m1 (5^k1) (akA hm1) (acQ hm1 hk1).2 (acQ hm1 hk1).1 _) ?_;iterate 10 refine AX ?_
  exact⟨rfl,(zM rfl (by(unfold ofR;rw[aI,hse];done)) (zM rfl (by(unfold ofX;rw[aI,hse];done)) sX)),rfl⟩
 refine .sub [(1,_),(7,_),(0,_),(6,_)] sX ?_;have hRB:=bwO hm he;have hX:=beW (m:=m) he;iterate 4 refine AX ?_
 refine .cl rfl call277 (evs1 rfl) (bgU (ofR m e) hRB _) ?_;refine AX ?_;refine .cl rfl call98 (evs3 rfl rfl rfl) (aqD neg (dec (ofR m e)) (ofX m e) (asG _) (aZ (avG hRB) aC) aA _) ?_;iterate 3 refine AX ?_
 refine .al zr58 (λb10 hb10=>?_);have hn6_10:=Heap.ne_of (oS _ _ _) hb10;iterate 4 refine AX ?_
 refine .frz (t:=10) rfl (hb10) ?_;iterate 6 refine AX ?_
 refine .frz (t:=6) rfl (hb6) ?_;iterate 2 refine AX ?_
 refine⟨?_,rfl⟩;rw[bwP];rfl
def avH(x:Nat):(Bool×List UInt8×Int)×Int:=if 3≤zK x then((false,[],0),11)else(ofN (aeK x) (yF x) (yG x),0)
def asV(x n:Nat):(Bool×List UInt8×Int)×Int:=if 3≤zK x then((false,[],0),11)else caK (avH x).1.1 (avH x).1.2.1 (avH x).1.2.2 n
theorem beY(neg:Bool)(m:Nat)(e:Int):qE (ofN neg m e).2.1 (ofN neg m e).2.2=true:=by
 rw[bwP];exact alC (asG _)
theorem boM(x:Nat):(avH x).2=if 3≤zK x then 11 else 0:=by unfold avH;split<;>rfl
theorem alL(x:Nat):qE (avH x).1.2.1 (avH x).1.2.2=true:=by
 unfold avH;split
 ·rfl
 exact beY _ _ _
theorem bpA(x:Nat)(hx:x<18446744073709551616):Fn 173 [.int .u64 (x:Int)] (dT (avH x)):=by
 intro H;have hpm:=qD x;have hpe:=yM x;refine .of_body func173 rfl ntmps173 results173 rfl ?_;iterate 2 refine AX ?_
 refine .al zr58 (λb2 hb2=>?_);iterate 7 refine AX ?_
 refine .cl rfl C89 (evs1 rfl) (aaA x hx _) ?_;iterate 3 refine AX ?_
 refine .cx rfl (λhc9=>?_) (λhc9=>?_)
 ·iterate 2 refine AX ?_
  refine .p rfl (zX zr58 pl58 .nil rfl) ?_;iterate 4 refine AX ?_
  refine .frz (t:=2) rfl (hb2) ?_;iterate 3 refine AX ?_
  refine⟨?_,rfl⟩;unfold avH;rw[aJ];rfl
 iterate 5 refine AX ?_
 refine .cl rfl C181 (evs1 rfl) (acM x hx _) ?_;iterate 13 refine AX ?_
 refine .cl rfl C230 (evs1 rfl) (asI (yF x) aA _) ?_;refine AX ?_;refine .cl rfl call229 (evs3 rfl rfl rfl) (btR (aeK x) (yF x) (yG x) aA hpe _) ?_;iterate 4 refine AX ?_
 refine .frz (t:=2) rfl (hb2) ?_;iterate 2 refine AX ?_
 refine⟨?_,rfl⟩;unfold avH;rw[aI];rfl
theorem boZ(x:Nat)(hx:x<18446744073709551616)(n:Nat)(hn:0<n)(hn2:n≤100000):Fn 106 [.int .u64 (x:Int),.int .i64 (n:Int),.int .i64 1] (dT (asV x n)):=by
 intro H;refine .of_body func106 rfl ntmps106 results106 rfl ?_;iterate 2 refine AX ?_
 refine .al zr58 (λb6 hb6=>?_);iterate 6 refine AX ?_
 refine .cl rfl call173 (evs1 rfl) (bpA x hx _) ?_;iterate 3 refine AX ?_
 refine .al zr58 (λb8 hb8=>?_);have hn6_8:=Heap.ne_of (oS _ _ _) hb8;iterate 4 refine AX ?_
 refine .frz (t:=8) rfl (hb8) ?_;iterate 7 refine AX ?_
 refine .cx rfl (λhc16=>?_) (λhc16=>?_)
 ·have hk3:3≤zK x:=by rcases cG (zK x) 3 with h|h;exact absurd (show(avH x).2=0 by unfold avH;rw[aI]) aB;exact h
  iterate 8 refine AX ?_
  refine .frz (t:=6) rfl (hb6) ?_;iterate 3 refine AX ?_
  refine⟨?_,rfl⟩;unfold asV;rw[aN hk3];rw[show avH x=((false,[],0),11) by unfold avH;rw[aN hk3]];rfl
 have hk3:¬3≤zK x:=λh=>by rw[boM,aN h]at hc16;exact absurd hc16 aC
 iterate 7 refine AX ?_
 refine .cl rfl call174 (evs3 rfl rfl rfl) (caC _ _ _ n (alL x) hn hn2 _) ?_;iterate 6 refine AX ?_
 refine .frz (t:=6) rfl (hb6) ?_;iterate 2 refine AX ?_
 refine⟨?_,rfl⟩;unfold asV;rw[aL hk3];rfl
def cfQ(neg:Bool)(m0 k0 b:Nat)(H:Heap):Nat→Env→Heap→Prop:=λk env H1=>∃m k1:Nat,m<18014398509481984∧k1≤1075∧ahT m k1=ahT m0 k0∧env=[(0,.bool neg),(1,qL m),(2,.int .i64 (-(k1:Int))),(6,.ptr (some ⟨b,0,none⟩))]∧H1=H.set b (.box 58 [.bool false,.str [],.int .i64 0])∧k=k1
theorem bpT(neg:Bool)(m:Nat)(e:Int)(hm:m<18014398509481984)(he: -1075≤e∧e≤972):Fn 146 [.bool neg,qL m,.int .i64 e] (dD (ofN neg m e)):=by
 intro H;have hmB:=akA hm;have hRB:=bwO hm he;have hX:=beW (m:=m) he;have hml:=yI hmB;have hrl:=yI hRB;refine .of_body func146 rfl ntmps146 results146 rfl ?_;iterate 2 refine AX ?_
 refine .al zr58 (λb6 hb6=>?_);iterate 9 refine AX ?_
 refine .cx rfl (λhc12=>?_) (λhc12=>?_)
 ·have hR2:m*2^e.toNat<BIG:=anE hm aA;iterate 5 refine AX ?_
  refine .cl rfl C87 (evs2 rfl rfl) (akG (zE m) .shared (zF m) aA e.toNat aA e aA (by rw[zG];exact anE hm aA) _) ?_;simp only[zG];refine .cl rfl call202 (evs1 rfl) (anK (zE (m*2^e.toNat)) .shared (zF _) (by have:=yI hR2;omega) (by rw[zG];exact hR2) _) ?_;simp only[zG];refine .cl rfl C104 (.cons (tm rfl) (.cons (tm rfl) (.cons zH .nil))) (ajB neg (dec (m*2^e.toNat)) 0 (asG _) (aZ (avG hR2) aC) aC _) ?_;iterate 3 refine AX ?_
  refine .al zr58 (λb7 hb7=>?_);have hn6_7:=Heap.ne_of (oS _ _ _) hb7;iterate 4 refine AX ?_
  refine .frz (t:=7) rfl (hb7) ?_;iterate 6 refine AX ?_
  refine .frz (t:=6) rfl (hb6) ?_;iterate 3 refine AX ?_
  refine⟨?_,rfl⟩;unfold ofN;rw[aJ];rfl
 have hen:e= -(((-e).toNat:Nat):Int):=by omega
 iterate 4 refine AX ?_
 refine .loopW (cfQ neg m (-e).toNat b6 H) ((-e).toNat) ⟨m,(-e).toNat,hm,by omega,rfl,rfl,rfl,rfl⟩ (zI rfl (zI rfl (zM rfl (by rw[←hen]) (zI rfl yJ)))) (hRa _) ?_;rintro _ _ _ ⟨m1,k1,hm1,hk1,hst,rfl,rfl,hk⟩;have hm1l:=yI (akA hm1);refine AX ?_;refine .seqTo 34 (.bool (decide (-(k1:Int)<0)&& !decide (((m1%2:Nat):Int)=1)&&decide ((0:Int)<((zE m1).length:Int)))) [0,1,2,6] ?_ ?_
 ·iterate 4 refine AX ?_
  refine zC (t:=25) rfl (λhg25=>?_) (λhg25=>?_)
  ·have hh25:=hg25;try simp only[aO]at hh25
   refine AX ?_;refine .gs rfl rfl rfl aB (zB C151 (.cons (tm rfl) (.cons zH .nil)) (afX (zE m1) .shared (zF m1) aA 0 aC 0 rfl _)) ?_;rintro _ _ ⟨rfl,hH⟩;obtain rfl:=hH.symm;rw[zG,dI,gC];iterate 3 refine AX ?_
   refine zC (t:=30) rfl (λhg30=>?_) (λhg30=>?_)
   ·have hh30:=hg30;try simp only[aM,dX]at hh30
    iterate 5 refine AX ?_
    exact⟨rfl,zL rfl (by(rw[show decide (-(k1:Int)<0)=_ from hg25,show(!decide (((m1%2:Nat):Int)=1))=_ from hg30];rfl)) sX,rfl⟩
   have hh30:=hg30;try simp only[aO,dF]at hh30
   iterate 5 refine AX ?_
   exact⟨rfl,zL rfl (by(rw[show decide (-(k1:Int)<0)=_ from hg25,show(!decide (((m1%2:Nat):Int)=1))=_ from hg30];rfl)) sX,rfl⟩
  have hh25:=hg25;try simp only[aM,cO]at hh25
  iterate 10 refine AX ?_
  exact⟨rfl,zL rfl (by(rw[show decide (-(k1:Int)<0)=_ from hg25];rfl)) sX,rfl⟩
 refine .sub [(34,_),(0,_),(1,_),(2,_),(6,_)] sX ?_;refine .cx rfl (λhc34=>?_) (λhc34=>?_)
 ·simp only[bL,dX,aO,aM]at hc34;obtain⟨⟨hk0,hb0⟩,hl0⟩:=hc34;have hm0:0<m1:=by rcases bJ m1 with h|h;rw[h]at hl0;exact absurd hl0 aC;exact h
  have hst2:=blU (m:=m1) (k:=k1) aA hm0 aA;iterate 6 refine AX ?_
  refine .e rfl (qM U107 Z166 V166 rfl (zR 2) (.inl rfl) ⟨rfl,rfl⟩) (.cl rfl C86 (evs2 rfl rfl) (akK (zE m1) .shared (zF m1) aA [2] .full (Limbs.mk aC Limbs.nil) aC aC _) ?_);rw[zG,show val [2]=2 from rfl];iterate 13 refine AX ?_
  refine Round.mk ⟨m1/2,k1-1,by omega,by omega,by rw[←hst2];exact hst,rfl,rfl,rfl⟩ (zI rfl (zI rfl (zM rfl (by congr 1;omega) (zI rfl yJ)))) (hRa _) aA
 simp only[bX,dF,aO,aM]at hc34;have hse:ahT m1 k1=(m1,k1):=bdA (by
   rcases bJ m1 with h|h
   ·omega
   have hnl:=alD h;omega)
 rw[hst]at hse;iterate 13 refine AX ?_
 refine .cx rfl (λhc45=>?_) (λhc45=>?_)
 ·iterate 3 refine AX ?_
  refine .p rfl (zX zr58 pl58 (.cons (tm rfl) (.inl rfl) .nil) rfl) ?_;iterate 3 refine AX ?_
  refine .frz (t:=6) rfl (hb6) ?_;iterate 3 refine AX ?_
  refine⟨?_,rfl⟩;have hm10:m1=0:=awN.1 aA;unfold ofN;rw[aI,hse,hm10,dV,cjE];rfl
 iterate 8 refine AX ?_
 refine .cl rfl call203 (evs1 rfl) (bdP k1 aA _ aA (acQ hm1 hk1).2 _) ?_;refine .cl rfl C83 (evs2 rfl rfl) (abN (zE m1) .shared (zF m1) aA (zE (5^k1)) .shared (zF _) (by have:=yI (acQ hm1 hk1).2;omega) _) ?_;simp only[zG];refine .cl rfl call202 (evs1 rfl) (anK (zE (m1*5^k1)) .shared (zF _) (by have:=yI (acQ hm1 hk1).1;omega) (by rw[zG];exact(acQ hm1 hk1).1) _) ?_;simp only[zG];refine AX ?_;refine .cl rfl C104 (evs3 rfl rfl rfl) (ajB neg (dec (m1*5^k1)) (-(k1:Int)) (asG _) (aZ (avG (acQ hm1 hk1).1) aC) aA _) ?_;iterate 3 refine AX ?_
 refine .al zr58 (λb9 hb9=>?_);have hn6_9:=Heap.ne_of (oS _ _ _) hb9;iterate 4 refine AX ?_
 refine .frz (t:=9) rfl (hb9) ?_;iterate 6 refine AX ?_
 refine .frz (t:=6) rfl (hb6) ?_;iterate 2 refine AX ?_
 refine⟨?_,rfl⟩;unfold ofN;rw[aI,hse];rfl
theorem baB(x:Nat)(hx:x<18446744073709551616):Fn 145 [.int .u64 (x:Int)] (.bool (decide ((zK x:Int)<3))):=by
 intro H;refine .of_body func145 rfl ntmps145 results145 rfl ?_;iterate 8 refine AX ?_
 refine .cl rfl C25 (evs1 rfl) (qA x hx _) ?_;iterate 6 refine AX ?_
 exact⟨rfl,rfl⟩
theorem bhY(x:Nat)(hx:x<18446744073709551616):Fn 77 [.int .u64 (x:Int)] (dT (avH x)):=by
 intro H;have hpm:=qD x;have hpe:=yM x;refine .of_body func77 rfl ntmps77 results77 rfl ?_;iterate 2 refine AX ?_
 refine .al zr58 (λb2 hb2=>?_);iterate 6 refine AX ?_
 refine .cl rfl call145 (evs1 rfl) (baB x hx _) ?_;iterate 10 refine AX ?_
 refine .cx rfl (λhc11=>?_) (λhc11=>?_)
 ·iterate 2 refine AX ?_
  refine .p rfl (zX zr58 pl58 .nil rfl) ?_;iterate 4 refine AX ?_
  refine .frz (t:=2) rfl (hb2) ?_;iterate 3 refine AX ?_
  refine⟨?_,rfl⟩;unfold avH;rw[aJ];rfl
 iterate 5 refine AX ?_
 refine .cl rfl C129 (evs1 rfl) (abO x hx _) ?_;iterate 13 refine AX ?_
 refine .cl rfl C130 (evs1 rfl) (adV (yF x) aA _) ?_;refine AX ?_;refine .cl rfl call146 (evs3 rfl rfl rfl) (bpT (aeK x) (yF x) (yG x) aA hpe _) ?_;iterate 4 refine AX ?_
 refine .frz (t:=2) rfl (hb2) ?_;iterate 2 refine AX ?_
 refine⟨?_,rfl⟩;unfold avH;rw[aI];rfl
theorem bhX(x:Nat)(hx:x<18446744073709551616)(n:Nat)(hn:0<n)(hn2:n≤100000):Fn 28 [.int .u64 (x:Int),.int .i64 (n:Int),.int .i64 1] (dT (asV x n)):=by
 intro H;refine .of_body func28 rfl ntmps28 results28 rfl ?_;iterate 2 refine AX ?_
 refine .al zr58 (λb6 hb6=>?_);iterate 6 refine AX ?_
 refine .cl rfl call77 (evs1 rfl) (bhY x hx _) ?_;iterate 3 refine AX ?_
 refine .al zr58 (λb8 hb8=>?_);have hn6_8:=Heap.ne_of (oS _ _ _) hb8;iterate 4 refine AX ?_
 refine .frz (t:=8) rfl (hb8) ?_;iterate 7 refine AX ?_
 refine .cx rfl (λhc16=>?_) (λhc16=>?_)
 ·have hk3:3≤zK x:=by rcases cG (zK x) 3 with h|h;exact absurd (show(avH x).2=0 by unfold avH;rw[aI]) aB;exact h
  iterate 8 refine AX ?_
  refine .frz (t:=6) rfl (hb6) ?_;iterate 3 refine AX ?_
  refine⟨?_,rfl⟩;unfold asV;rw[aN hk3];rw[show avH x=((false,[],0),11) by unfold avH;rw[aN hk3]];rfl
 have hk3:¬3≤zK x:=λh=>by rw[boM,aN h]at hc16;exact absurd hc16 aC
 iterate 7 refine AX ?_
 refine .cl rfl call78 (evs3 rfl rfl rfl) (bqI _ _ _ n (alL x) hn hn2 _) ?_;iterate 6 refine AX ?_
 refine .frz (t:=6) rfl (hb6) ?_;iterate 2 refine AX ?_
 refine⟨?_,rfl⟩;unfold asV;rw[aL hk3];rfl
end
section
open Go Go.RowKit
set_option maxRecDepth 100000
structure Loc where
 name:List UInt8
 dc:List UInt8
 grp:List UInt8
 lst:List UInt8
 minus:List UInt8
 pct:List UInt8
 cur:List UInt8
 first:Bool
 space:Bool
 second:Nat
def pL(l:Loc)(sz:AV):AV:=.agg [.str l.name,.str l.dc,.str l.grp,.str l.lst,.str l.minus,.str l.pct,.str l.cur,.bool l.first,.bool l.space,sz]
def rL(l:Loc):AV:=.agg [.str l.name,.str l.dc,.str l.grp,.str l.lst,.str l.minus,.str l.pct,.str l.cur,.bool l.first,.bool l.space,.int .i64 (l.second:Int)]
def Loc.ok(l:Loc):Prop:=l.dc.length≤10∧l.grp.length≤10∧l.minus.length≤10∧l.cur.length≤10∧l.pct.length≤10
def aaV(ds:List UInt8)(p:Int):(List UInt8×List UInt8)×Bool:=
 if 400<p∨400<(ds.length:Int)-p then(([],[]),false)
 else if p≤0 then(([48],List.replicate (-p).toNat 48++ds),true)
 else if(ds.length:Int)≤p then((ds++List.replicate (p-ds.length).toNat 48,[]),true)
 else((ds.take p.toNat,ds.drop p.toNat),true)
def agZ(l:Loc)(neg:Bool)(ds:List UInt8)(p:Int):List UInt8:=
 if(aaV ds p).2=true then(if neg=true then l.minus else [])++((aaV ds p).1.1++(if(aaV ds p).1.2=[]then []else l.dc++(aaV ds p).1.2))else []
theorem asW{p:Int}(hl:ds.length≤1100):(aaV ds p).1.1.length≤2000∧(aaV ds p).1.2.length≤2000:=by
 unfold aaV
 grind
theorem bcS{l:Loc}{neg:Bool}{p:Int}(hl:ds.length≤1100)(hk:l.ok):(agZ l neg ds p).length≤5000:=by
 have h:=asW (p:=p) hl;obtain⟨h1,h2,h3,h4,h5⟩:=hk;unfold agZ
 grind
theorem arT{e:Int}(h:qE ds e=true):ajP ds e=(ds.length:Int)+e:=by unfold ajP;rw[aN h]
theorem bhR(neg:Bool)(ds:List UInt8)(e:Int)(hr:qE ds e=true):Fn 175 [dA neg ds e] (.tuple [.str (aaV ds ((ds.length:Int)+e)).1.1,.str (aaV ds ((ds.length:Int)+e)).1.2,.bool (aaV ds ((ds.length:Int)+e)).2]):=by
 intro H;have hpd:=arT hr;have hrl:=qT hr;have hdd:=qJ hr;have hml:=zJ;generalize hpp:(ds.length:Int)+e=p at *;refine .of_body func175 rfl ntmps175 results175 rfl ?_;iterate 9 refine AX ?_
 refine .draw [(0,true),(2,true),(3,true),(4,true),(1,false),(5,true),(6,true)] rfl aE ?_;refine AX ?_;refine .p rfl rfl (zA U58 rfl Z9 (tm rfl)) ?_;iterate 2 refine AX ?_
 refine .s rfl rfl (zB call107 (evs1 rfl) (amU neg ds e hdd _)) ?_;rintro _ _ ⟨rfl,hH⟩;obtain rfl:=hH.symm;rw[hpd];iterate 13 refine AX ?_
 refine .cx rfl (λhc12=>?_) (λhc12=>?_)
 ·iterate 11 refine AX ?_
  refine⟨?_,rfl⟩;unfold aaV;have hn0:ds=[]:=cF.1 aA;have he0:p=0:=by rw[hn0]at hpp;have he:=hr;rw[hn0]at he;unfold qE at he;rw[aN rfl]at he;have:=of_decide_eq_true he;simp only[bN]at hpp;omega
  rw[hn0,he0];rfl
 refine .seqTo 15 (.bool (decide ((400:Int)<p)||decide ((400:Int)<(ds.length:Int)-p))) [1,2,3,4,5,6] ?_ ?_
 ·iterate 4 refine AX ?_
  refine zC (t:=18) rfl (λhg18=>?_) (λhg18=>?_)
  ·have hh18:=hg18;try simp only[aO]at hh18
   iterate 7 refine AX ?_
   exact⟨rfl,zL rfl (by(rw[show decide ((400:Int)<p)=_ from hg18];rfl)) sX,rfl⟩
  have hh18:=hg18;try simp only[aM,cO]at hh18
  iterate 7 refine AX ?_
  exact⟨rfl,zL rfl (by(rw[show decide ((400:Int)<p)=_ from hg18];rfl)) sX,rfl⟩
 refine .sub [(15,_),(1,_),(2,_),(3,_),(4,_),(5,_),(6,_)] sX ?_;refine .cx rfl (λhc15=>?_) (λhc15=>?_)
 ·simp only[cN,aO]at hc15;iterate 11 refine AX ?_
  refine⟨?_,rfl⟩;unfold aaV;rw[aN hc15];rfl
 simp only[cC,aM]at hc15;iterate 7 refine AX ?_
 refine .cx rfl (λhc24=>?_) (λhc24=>?_)
 ·refine AX ?_;refine .draw [(0,true),(1,true),(3,true),(4,true),(2,false),(5,true),(6,true),(7,true),(8,true)] rfl aE ?_;iterate 2 refine AX ?_
  refine .p rfl rfl (zA U58 rfl Z9 (tm rfl)) ?_;refine AX ?_;refine .s rfl rfl (zB C232 (.cons (zO rfl) (evs1 rfl)) (repeatZ 48 _ (-p).toNat aA aA _)) ?_;rintro _ _ ⟨rfl,hH⟩;obtain rfl:=hH.symm;refine .p rfl rfl (zS (tm rfl) (tm rfl) (by rw[zJ,cE];omega)) ?_;iterate 9 refine AX ?_
  refine⟨?_,rfl⟩;unfold aaV;rw[aI,aJ];rfl
 iterate 8 refine AX ?_
 refine .cx rfl (λhc33=>?_) (λhc33=>?_)
 ·refine AX ?_;refine .draw [(0,true),(1,true),(2,true),(3,true),(4,true),(5,false),(6,true),(7,true),(8,true),(9,true)] rfl aE ?_;refine .p rfl rfl (zA U58 rfl Z9 (tm rfl)) ?_;iterate 4 refine AX ?_
  refine .s rfl rfl (zB C232 (.cons (zO rfl) (evs1 rfl)) (repeatZ 48 _ (p-ds.length).toNat aA aA _)) ?_;rintro _ _ ⟨rfl,hH⟩;obtain rfl:=hH.symm;refine .p rfl rfl (zS (tm rfl) (tm rfl) (by rw[zJ,cE];omega)) ?_;iterate 9 refine AX ?_
  refine⟨?_,rfl⟩;unfold aaV;rw[aI,aI,aJ];rfl
 iterate 4 refine AX ?_
 refine .draw [(0,true),(1,true),(2,true),(3,true),(4,true),(5,true),(6,true),(7,true),(8,true),(9,true),(10,true)] rfl aE ?_;refine .p rfl rfl (zA U58 rfl Z9 (tm rfl)) ?_;iterate 3 refine AX ?_
 refine .p rfl rfl (zA U58 rfl Z9 (tm rfl)) ?_;iterate 10 refine AX ?_
 refine⟨?_,rfl⟩;unfold aaV;rw[aI,aI,aI];rfl
theorem avO(l:Loc)(hk:l.ok)(sz:AV)(neg:Bool)(ds:List UInt8)(e:Int)(hr:qE ds e=true):Fn 108 [pL l sz,dA neg ds e,.bool false] (.str (agZ l neg ds ((ds.length:Int)+e))):=by
 intro H;have hsl:=asW (ds:=ds) (p:=(ds.length:Int)+e) (qT hr).1;have hml:=zJ;have hdd:=qJ hr;obtain⟨hk1,hk2,hk3,hk4,hk5⟩:=hk;generalize hsv:aaV ds ((ds.length:Int)+e)=sv at *;obtain⟨⟨w,r⟩,ok⟩:=sv;obtain⟨hsl1,hsl2⟩:=hsl;simp only[]at hsl1 hsl2;refine .of_body func108 rfl ntmps108 results108 rfl ?_;iterate 10 refine AX ?_
 refine .cl rfl call175 (evs1 rfl) (bhR neg ds e hr _) ?_;rw[hsv]
 dsimp only
 iterate 10 refine AX ?_
 refine .seqTo 22 (.bool (!ok)) [2,3,4,6,7,8] ?_ ?_
 ·iterate 4 refine AX ?_
  refine zC (t:=18) rfl (λhg18=>?_) (λhg18=>?_)
  ·have hh18:=hg18;try simp only[dX]at hh18
   iterate 5 refine AX ?_
   exact⟨rfl,zL rfl (by(cases ok<;>first|rfl|(simp at hg18))) sX,rfl⟩
  have hh18:=hg18;try simp only[dF]at hh18
  refine AX ?_;refine .gs rfl rfl rfl aB (zB C165 (evs1 rfl) (agW neg ds e hdd _)) ?_;rintro _ _ ⟨rfl,hH⟩;obtain rfl:=hH.symm;rw[hr];iterate 3 refine AX ?_
  exact⟨rfl,zL rfl (by(cases ok<;>first|rfl|(simp at hg18))) sX,rfl⟩
 refine .sub [(22,_),(2,_),(3,_),(4,_),(6,_),(7,_),(8,_)] sX ?_;refine .cx rfl (λhc22=>?_) (λhc22=>?_)
 ·iterate 8 refine AX ?_
  refine⟨?_,rfl⟩;unfold agZ;rw[hsv];simp only[];rw[aL (show¬ok=true by simpa using hc22)];rfl
 iterate 8 refine AX ?_
 refine .cond_false (tm rfl) aD ?_;iterate 2 refine AX ?_
 refine .seqToL [(7,.str ((if neg=true then l.minus else [])++w))] [3,6,8] ?_ ?_
 ·iterate 2 refine AX ?_
  refine .p rfl (zA U58 rfl Z4 (tm rfl)) ?_;iterate 3 refine AX ?_
  refine .cx rfl (λhc28=>?_) (λhc28=>?_)
  ·refine AX ?_;refine .p rfl (zA U29 rfl Z9 (tm rfl)) ?_;iterate 2 refine AX ?_
   refine .p rfl (zS (tm rfl) (tm rfl) (by rw[zJ];omega)) ?_;iterate 2 refine AX ?_
   exact⟨rfl,(zM rfl (by(rw[aN aB];done)) sX),rfl⟩
  refine AX ?_;exact⟨rfl,(zM rfl (by(rw[aL (by(rw[hc28];decide))];rfl)) sX),rfl⟩
 refine .sub [(7,_),(3,_),(6,_),(8,_)] sX ?_;have hmw:(if neg=true then l.minus else []).length≤10:=by grind
 iterate 7 refine AX ?_
 refine .cx rfl (λhc34=>?_) (λhc34=>?_)
 ·iterate 2 refine AX ?_
  refine .p rfl (zA U29 rfl Z9 (tm rfl)) ?_;iterate 2 refine AX ?_
  refine .p rfl (zS (tm rfl) (tm rfl) (by rw[zJ];omega)) (.p rfl (zS (tm rfl) (tm rfl) (by simp only[zJ,aP];first|omega|(split<;>first|omega|(simp;done)|(simp;omega)))) ?_);iterate 11 refine AX ?_
  refine⟨?_,rfl⟩;unfold agZ;rw[hsv];simp only[];rw[aN (show ok=true by simpa using hc22),aL (show¬r=[] by simpa using hc34),aQ];rfl
 iterate 10 refine AX ?_
 refine⟨?_,rfl⟩;unfold agZ;rw[hsv];simp only[];rw[aN (show ok=true by simpa using hc22),aN (show r=[] by simpa using hc34),bP];rfl
end
section
open Go Go.RowKit
set_option maxRecDepth 100000
def agF(ds:List UInt8)(i:Nat):List UInt8:=ds.take i++List.replicate (i-ds.length) 48
theorem bhC(h:i<ds.length):agF ds i++[ds.getD i 0]=agF ds (i+1):=by
 unfold agF;rw[show i-ds.length=0 by omega,show i+1-ds.length=0 by omega,List.replicate_zero,bP,bP,←cV h,aR,bG h];rfl
theorem bhD(h:ds.length≤i):agF ds i++[48]=agF ds (i+1):=by
 unfold agF;rw[bA h,bA aA,show i+1-ds.length=(i-ds.length)+1 by omega,List.replicate_succ',aQ]
theorem akT(ds:List UInt8)(i:Nat):(agF ds i).length=i:=by
 unfold agF;simp only[aP,aS,cE];omega
def arI(ds:List UInt8)(m q j:Nat):List UInt8:=List.replicate (min j m) 48++(ds.drop q).take (j-m)
theorem bpZ{q j:Nat}(h:j<m):arI ds m q j++[48]=arI ds m q (j+1):=by
 unfold arI;rw[show j-m=0 by omega,show j+1-m=0 by omega,fB,bP,bP,dN aA,dN aA,List.replicate_succ']
theorem bqA{q j:Nat}(h:m≤j)(hi:i=q+(j-m))(hl:i<ds.length):arI ds m q j++[ds.getD i 0]=arI ds m q (j+1):=by
 unfold arI;have hd:j-m<(ds.drop q).length:=by grind
 rw[gO h,gO aA,show j+1-m=(j-m)+1 by omega,←cV hd,←aQ,List.getElem_drop,aR,bG hl]
 grind
theorem bdR(ds:List UInt8)(m q j:Nat):(arI ds m q j).length≤j:=by
 unfold arI;simp only[aP,aS,cE,bD];omega
theorem asU(h:i<ds.length):(ds.take (i+1)).drop i=[ds.getD i 0]:=by
 rw[←cV h,List.drop_append_of_le_length (by rw[aS];omega),eJ (by rw[aS];omega),aR,bG h];rfl
def bvB(neg:Bool)(ds:List UInt8)(e p:Int)(H:Heap):Nat→Env→Heap→Prop:=λk env H1=>∃i:Nat,(i:Int)≤max p 0∧env=[(1,.iptr [.bool neg,.str ds,.int .i64 e]),(5,.int .i64 p),(6,.int .i64 (ds.length:Int)),(7,.str (agF ds i)),(8,.str []),(9,.int .i64 (i:Int))]∧H=H1∧k=p.toNat-i
def bmC(neg:Bool)(ds w:List UInt8)(e p:Int)(H:Heap):Nat→Env→Heap→Prop:=λk env H1=>∃j:Nat,(j:Int)≤max ((ds.length:Int)-p) 0∧env=[(1,.iptr [.bool neg,.str ds,.int .i64 e]),(5,.int .i64 p),(6,.int .i64 (ds.length:Int)),(7,.str w),(8,.str (arI ds (-p).toNat p.toNat j)),(10,.int .i64 (p+j))]∧H=H1∧k=((ds.length:Int)-p).toNat-j
theorem beC(neg:Bool)(ds:List UInt8)(e:Int)(hr:qE ds e=true):Fn 178 [dA neg ds e] (.tuple [.str (aaV ds ((ds.length:Int)+e)).1.1,.str (aaV ds ((ds.length:Int)+e)).1.2,.bool (aaV ds ((ds.length:Int)+e)).2]):=by
 intro H;have hpd:=arT hr;have hrl:=qT hr;have hdd:=qJ hr;have hml:=zJ;generalize hpp:(ds.length:Int)+e=p at *;refine .of_body func178 rfl ntmps178 results178 rfl ?_;iterate 11 refine AX ?_
 refine .cl rfl call79 (evs1 rfl) (akJ neg ds e aA _) ?_;rw[hpd];iterate 5 refine AX ?_
 refine .p rfl (zA U58 rfl Z9 (tm rfl)) ?_;iterate 6 refine AX ?_
 refine .seqTo 27 (.bool (decide ((400:Int)<p)||(decide ((400:Int)<(ds.length:Int)-p)&&decide ((0:Int)<(ds.length:Int))))) [1,2,3,4,5,6] ?_ ?_
 ·iterate 4 refine AX ?_
  refine zC (t:=18) rfl (λhg18=>?_) (λhg18=>?_)
  ·have hh18:=hg18;try simp only[aO]at hh18
   iterate 10 refine AX ?_
   exact⟨rfl,zL rfl (by(rw[show decide ((400:Int)<p)=_ from hg18];rfl)) sX,rfl⟩
  have hh18:=hg18;try simp only[aM,cO]at hh18
  iterate 5 refine AX ?_
  refine zC (t:=23) rfl (λhg23=>?_) (λhg23=>?_)
  ·have hh23:=hg23;try simp only[aO]at hh23
   iterate 5 refine AX ?_
   exact⟨rfl,zL rfl (by(rw[show decide ((400:Int)<p)=_ from hg18,show decide ((400:Int)<(ds.length:Int)-p)=_ from hg23];rfl)) sX,rfl⟩
  have hh23:=hg23;try simp only[aM,cO]at hh23
  iterate 5 refine AX ?_
  exact⟨rfl,zL rfl (by(rw[show decide ((400:Int)<p)=_ from hg18,show decide ((400:Int)<(ds.length:Int)-p)=_ from hg23];rfl)) sX,rfl⟩
 refine .sub [(27,_),(1,_),(2,_),(3,_),(4,_),(5,_),(6,_)] sX ?_;refine .cx rfl (λhc27=>?_) (λhc27=>?_)
 ·simp only[cN,bL,aO]at hc27;iterate 10 refine AX ?_
  refine⟨?_,rfl⟩;unfold aaV;rw[aJ];rfl
 simp only[cC,bX,aM]at hc27;have hb4:¬(400<(ds.length:Int)-p):=by
  intro q;by_cases hn0:0<ds.length
  ·omega
  have hn1:ds=[]:=by grind
  have he:=hr;rw[hn1]at he;unfold qE at he
  grind
 iterate 19 refine AX ?_
 refine .loopW (bvB neg ds e p H) (p.toNat) ⟨0,by omega,rfl,rfl,rfl⟩ (zI rfl (zI rfl (zI rfl (zM rfl (by unfold agF;simp) sX)))) (hRa _) ?_;rintro _ _ _ ⟨i,hi,rfl,rfl,hk⟩;iterate 8 refine AX ?_
 refine .cx rfl (λhc30=>?_) (λhc30=>?_)
 ·iterate 2 refine AX ?_
  refine .seqToL [(7,.str (agF ds (i+1)))] [1,5,6,8,9,30] ?_ ?_
  ·iterate 8 refine AX ?_
   refine .cx rfl (λhc35=>?_) (λhc35=>?_)
   ·iterate 2 refine AX ?_
    refine .p rfl (zA U58 rfl Z9 (tm rfl)) ?_;iterate 5 refine AX ?_
    refine .p rfl (zS (tm rfl) (tm rfl) (by rw[zJ,akT];simp only[bD,aS];omega)) ?_;iterate 3 refine AX ?_
    exact⟨rfl,(zM rfl (by(rw[show((i:Int)).toNat=i from rfl,show((i:Int)+1).toNat=i+1 by omega,asU aA];congr 1;exact bhC aA)) sX),rfl⟩
   iterate 2 refine AX ?_
   refine .p rfl (zS (tm rfl) (zO rfl) (by rw[zJ,akT];simp only[aX,bN];omega)) ?_;iterate 3 refine AX ?_
   exact⟨rfl,(zM rfl (by(congr 1;exact bhD aA)) sX),rfl⟩
  refine .sub [(7,_),(1,_),(5,_),(6,_),(8,_),(9,_),(30,_)] sX ?_;iterate 6 refine AX ?_
  refine Round.mk ⟨i+1,by omega,rfl,rfl,rfl⟩ sX (hRa _) aA
 iterate 5 refine AX ?_
 refine .seqToL [(7,.str (if p≤0 then [48]else agF ds p.toNat))] [1,5,6,8] ?_ ?_
 ·iterate 6 refine AX ?_
  refine .cx rfl (λhc47=>?_) (λhc47=>?_)
  ·iterate 3 refine AX ?_
   exact⟨rfl,(zM rfl (by(rw[aN (by rcases Int.lt_or_le 0 p with q|q;have:=congrArg List.length (show agF ds i=[]from hc47);rw[akT]at this;simp at this;omega;exact q)];done)) sX),rfl⟩
  refine AX ?_;exact⟨rfl,(zM rfl (by(rw[aL (by intro q;exact hc47 (cF.1 (by rw[akT];omega))),show i=p.toNat by omega];done)) sX),rfl⟩
 refine .sub [(7,_),(1,_),(5,_),(6,_),(8,_)] sX ?_;generalize hw:(if p≤0 then [48]else agF ds p.toNat)=w at *;iterate 8 refine AX ?_
 refine .loopW (bmC neg ds w e p H) (((ds.length:Int)-p).toNat) ⟨0,by omega,rfl,rfl,rfl⟩ (zI rfl (zI rfl (zI rfl (zI rfl (zM rfl (by unfold arI;simp) (zM rfl aF yJ)))))) (hRa _) ?_;rintro _ _ _ ⟨j,hj,rfl,rfl,hk⟩;iterate 8 refine AX ?_
 refine .cx rfl (λhc51=>?_) (λhc51=>?_)
 ·iterate 2 refine AX ?_
  refine .seqToL [(8,.str (arI ds (-p).toNat p.toNat (j+1)))] [1,5,6,7,10,51] ?_ ?_
  ·iterate 7 refine AX ?_
   refine .cx rfl (λhc55=>?_) (λhc55=>?_)
   ·iterate 2 refine AX ?_
    refine .p rfl (zS (tm rfl) (zO rfl) (by have:=bdR ds (-p).toNat p.toNat j;rw[zJ];simp only[aX,bN];omega)) ?_;iterate 3 refine AX ?_
    exact⟨rfl,(zM rfl (by(congr 1;exact bpZ aA)) sX),rfl⟩
   iterate 2 refine AX ?_
   refine .p rfl (zA U58 rfl Z9 (tm rfl)) ?_;iterate 5 refine AX ?_
   refine .p rfl (zS (tm rfl) (tm rfl) (by have:=bdR ds (-p).toNat p.toNat j;rw[zJ];simp only[bD,aS];omega)) ?_;iterate 3 refine AX ?_
   exact⟨rfl,(zM rfl (by(rw[show(p+(j:Int)+1).toNat=(p+(j:Int)).toNat+1 by omega,asU aA];congr 1;exact bqA aA aA aA)) sX),rfl⟩
  refine .sub [(8,_),(1,_),(5,_),(6,_),(7,_),(10,_),(51,_)] sX ?_;iterate 6 refine AX ?_
  refine Round.mk ⟨j+1,by omega,rfl,rfl,rfl⟩ (zI rfl (zI rfl (zI rfl (zI rfl (zI rfl (zM rfl (by congr 1;omega) yJ)))))) (hRa _) aA
 iterate 16 refine AX ?_
 refine⟨?_,rfl⟩;unfold aaV;rw[aI];have hj2:j=((ds.length:Int)-p).toNat:=by omega
 rw[hj2,←hw];unfold arI agF;by_cases hp0:p≤0
 ·rw[aN hp0,aN hp0,show p.toNat=0 by omega,cU,gO aA,bA aA];rfl
 rw[aL hp0,aL hp0,show(-p).toNat=0 by omega,gO (Nat.zero_le _),gL,List.replicate_zero,cJ];by_cases hp1:(ds.length:Int)≤p
 ·rw[aN hp1,bA aA,show((ds.length:Int)-p).toNat=0 by omega,fB,show(p-(ds.length:Int)).toNat=p.toNat-ds.length by omega];rfl
 rw[aL hp1,show p.toNat-ds.length=0 by omega,List.replicate_zero,bP,bA (l:=ds.drop p.toNat) (by rw[bD];omega)];rfl
end
section
open Go Go.RowKit
set_option maxRecDepth 100000
theorem beA(l:Loc)(hk:l.ok)(neg:Bool)(ds:List UInt8)(e:Int)(hr:qE ds e=true):Fn 110 [rL l,dA neg ds e,.bool false] (.str (agZ l neg ds ((ds.length:Int)+e))):=by
 intro H;have hsl:=asW (ds:=ds) (p:=(ds.length:Int)+e) (qT hr).1;have hml:=zJ;have hdd:=qJ hr;have hrl:=qT hr;obtain⟨hk1,hk2,hk3,hk4,hk5⟩:=hk;generalize hsv:aaV ds ((ds.length:Int)+e)=sv at *;obtain⟨⟨w,r⟩,ok⟩:=sv;obtain⟨hsl1,hsl2⟩:=hsl;simp only[]at hsl1 hsl2;refine .of_body func110 rfl ntmps110 results110 rfl ?_;iterate 10 refine AX ?_
 refine .cl rfl call147 (evs1 rfl) (akI neg ds e aA _) ?_;rw[hr];iterate 10 refine AX ?_
 refine .cond_false (tm rfl) aD ?_;iterate 5 refine AX ?_
 refine .cl rfl call178 (evs1 rfl) (beC neg ds e hr _) ?_;rw[hsv]
 dsimp only
 iterate 16 refine AX ?_
 refine .cx rfl (λhc23=>?_) (λhc23=>?_)
 ·iterate 8 refine AX ?_
  refine⟨?_,rfl⟩;unfold agZ;rw[hsv];simp only[];rw[aL (show¬ok=true by simpa using hc23)];rfl
 iterate 7 refine AX ?_
 refine .seqToL [(11,.str (if neg=true then l.minus else []))] [2,3,6,8,9] ?_ ?_
 ·iterate 2 refine AX ?_
  refine .p rfl (zA U58 rfl Z4 (tm rfl)) ?_;iterate 3 refine AX ?_
  refine .cx rfl (λhc25=>?_) (λhc25=>?_)
  ·refine AX ?_;refine .p rfl (zA U31 rfl Z9 (tm rfl)) ?_;iterate 3 refine AX ?_
   exact⟨rfl,(zM rfl (by(rw[aN aB];done)) sX),rfl⟩
  refine AX ?_;exact⟨rfl,(zM rfl (by(rw[aL (by(rw[hc25];decide))];done)) sX),rfl⟩
 refine .sub [(11,_),(2,_),(3,_),(6,_),(8,_),(9,_)] sX ?_;have hmw:(if neg=true then l.minus else []).length≤10:=by grind
 iterate 6 refine AX ?_
 refine .cond_false (tm rfl) aD ?_;iterate 6 refine AX ?_
 refine .p rfl (zS (tm rfl) (tm rfl) (by rw[zJ];omega)) ?_;iterate 10 refine AX ?_
 refine .cx rfl (λhc36=>?_) (λhc36=>?_)
 ·iterate 2 refine AX ?_
  refine .p rfl (zA U31 rfl Z9 (tm rfl)) ?_;refine AX ?_;refine .p rfl (zS (tm rfl) (tm rfl) (by rw[zJ,aP];omega)) ?_;refine AX ?_;refine .p rfl (zS (tm rfl) (tm rfl) (by rw[zJ,aP,aP];omega)) ?_;iterate 11 refine AX ?_
  refine⟨?_,rfl⟩;unfold agZ;rw[hsv];simp only[];rw[aN (show ok=true by simpa using hc23),aL (show¬r=[] by simpa using hc36),aQ,aQ];rfl
 iterate 10 refine AX ?_
 refine⟨?_,rfl⟩;unfold agZ;rw[hsv];simp only[];rw[aN (show ok=true by simpa using hc23),aN (show r=[] by simpa using hc36),bP];rfl
theorem bkG{n:Nat}(h:n<10):((([48,49,50,51,52,53,54,55,56,57]:List UInt8).take (n+1)).drop n)=dec n:=by
 rw[aoK h];have:n=0∨n=1∨n=2∨n=3∨n=4∨n=5∨n=6∨n=7∨n=8∨n=9:=by omega
 rcases this with rfl|rfl|rfl|rfl|rfl|rfl|rfl|rfl|rfl|rfl<;>rfl
theorem bdL(n:Nat)(hn:n≤1000000000)(ih:∀m,m<n→∀H,ACall prog 111 [.int .i64 (m:Int)] H (λy H'=>y= .str (dec m)∧H'=H))(H:Heap):ACall prog 111 [.int .i64 (n:Int)] H (λy H'=>y= .str (dec n)∧H'=H):=by
 have hml:=zJ;have hl1:=(ahX (n:=n/10) (k:=10) aC).2 aA;have hl2:=(ahX (n:=n%10) (k:=10) aC).2 aA;refine .of_body func111 rfl ntmps111 results111 rfl ?_;iterate 12 refine AM ?_
 refine .cx rfl (λhc4=>?_) (λhc4=>?_)
 ·iterate 5 refine AM ?_
  refine .p rfl (anO U9 (zO rfl) (tm rfl) (tm rfl) aA aA (by simp only[aX,bN];omega)) ?_;iterate 6 refine AX ?_
  refine⟨?_,rfl⟩;rw[←bkG (show n<10 by omega)];rfl
 iterate 6 refine AM ?_
 refine .cl rfl call111 (evs1 rfl) (ih (n/10) aA _) ?_;iterate 2 refine AM ?_
 refine .cl rfl call111 (evs1 rfl) (ih (n%10) aA _) (.p rfl (zS (tm rfl) (tm rfl) (by rw[zJ];omega)) ?_);iterate 5 refine AX ?_
 refine⟨?_,rfl⟩;rw[arD (show 10≤n by omega),aoK (bU n aC)];rfl
theorem azZ(n:Nat)(hn:n≤1000000000):Fn 111 [.int .i64 (n:Int)] (.str (dec n)):=by
 intro H;induction n using Nat.strongRecOn generalizing H with
 |ind n ih=>exact bdL n hn (λm hm H=>ih m hm aA H) H
theorem rnumberZ(q:Int)(n:Nat)(hq:q=(n:Int))(hn:n≤1000000000):Fn 111 [.int .i64 q] (.str (dec n)):=by
 intro H;subst hq;exact azZ n hn H
theorem itoaZ(q:Int)(n:Nat)(hq:q=(n:Int))(hn:n≤9223372036854775807):Fn 109 [.int .i64 q] (.str (dec n)):=by
 intro H;subst hq;exact itoaA n hn H
def amO(l:Loc)(neg:Bool)(ds:List UInt8):List UInt8:=(if neg=true then l.minus else [])++ds.take 1++(if(1:Int)<(ds.length:Int)then l.dc++ds.drop 1 else [])
def apU(p:Int):Nat:=(if p<1 then 1-p else p-1).toNat
def bsB(l:Loc)(s:(Bool×List UInt8×Int)×Int):List UInt8:=
 if s.2≠0 then []
 else if s.1.2.1=[]∨(-4≤(s.1.2.1.length:Int)+s.1.2.2∧(s.1.2.1.length:Int)+s.1.2.2≤15)then agZ l s.1.1 s.1.2.1 ((s.1.2.1.length:Int)+s.1.2.2)
 else amO l s.1.1 s.1.2.1++[69]++[if(s.1.2.1.length:Int)+s.1.2.2<1 then 45 else 43]++(if(dec (apU ((s.1.2.1.length:Int)+s.1.2.2))).length<2 then [48]else [])++dec (apU ((s.1.2.1.length:Int)+s.1.2.2))
theorem btS{l:Loc}{neg:Bool}(h:ds≠[])(hl:ds.length≤300):agZ l neg ds 1=amO l neg ds:=by
 have hp:=bS.2 h;unfold agZ amO aaV;rw[aL (show¬((400:Int)<1∨400<(ds.length:Int)-1) by omega),aL (show¬(1:Int)≤0 by decide)];by_cases h1:(ds.length:Int)≤1
 ·rw[aN h1,aL (show¬(1:Int)<(ds.length:Int) by omega),bA (show ds.length≤1 by omega)];rw[show((1:Int)-(ds.length:Int)).toNat=0 by omega];simp
 rw[aL h1,aN (show(1:Int)<(ds.length:Int) by omega)];have hd:ds.drop 1≠[]:=λq=>by have:=congrArg List.length q;rw[bD]at this;simp only[bN]at this;omega
 grind
theorem ckT{n:Nat}:(dec n).length<2↔n<10:=by
 have:=ahX (n:=n) (k:=1) aC;omega
theorem apB(x n:Nat):qE (asV x n).1.2.1 (asV x n).1.2.2=true:=by
 unfold asV;split
 ·rfl
 unfold caK;split
 ·exact alL x
 unfold clK;have hd:=qJ (alL x);exact alC (by split;exact auU (hd.take _);exact hd.take _)
theorem cgL(neg:Bool)(ds:List UInt8)(e:Int):(mkN neg ds e).1.2.1.length≤ds.length:=by
 have h:(adR ds).length≤ds.length:=aZ (ajX _ _) (avE _ _);unfold mkN
 grind
theorem azP(x n:Nat):(asV x n).1.2.1.length≤n+1:=by
 unfold asV;split
 ·simp
 unfold caK;split
 ·grind
 unfold clK;refine aZ (cgL _ _ _) ?_;split
 ·refine aZ (asD _) ?_
  grind
 grind
theorem bcF(l:Loc)(hk:l.ok)(sz:AV)(x:Nat)(hx:x<18446744073709551616):Fn 43 [.int .u64 (x:Int),pL l sz] (.str (bsB l (asV x 15))):=by
 intro H;have hsr:=apB x 15;have hsl:=azP x 15;generalize hs:asV x 15=s at *;obtain⟨⟨neg,ds,e⟩,er⟩:=s
 dsimp only at hsr hsl
 have hml:=zJ;have hrl:=qT hsr;have hdd:=qJ hsr;have hpd:=arT hsr;have hwl:=bcS (l:=l) (neg:=neg) (ds:=ds) (p:=(ds.length:Int)+e) aA hk;have hkk:=hk;obtain⟨hk1,hk2,hk3,hk4,hk5⟩:=hkk;have hel:(dec (apU ((ds.length:Int)+e))).length≤10:=(ahX aC).2 (by unfold apU;split<;>omega);have hmn:(amO l neg ds).length≤200:=by
  unfold amO
  grind
 have hzl:(if(dec (apU ((ds.length:Int)+e))).length<2 then([48]:List UInt8)else []).length≤1:=by grind
 refine .of_body func43 rfl ntmps43 results43 rfl ?_;iterate 9 refine AX ?_
 refine .cl rfl call106 (.cons (tm rfl) (.cons zH (.cons zH .nil))) (boZ x hx 15 aC aC _) ?_;rw[hs];unfold dT
 dsimp only
 iterate 3 refine AX ?_
 refine .al zr58 (λb5 hb5=>?_);iterate 4 refine AX ?_
 refine .frz (t:=5) rfl (hb5) ?_;iterate 7 refine AX ?_
 refine .cx rfl (λhc16=>?_) (λhc16=>?_)
 ·iterate 8 refine AX ?_
  refine⟨?_,rfl⟩;unfold bsB
  dsimp only
  rw[aN (show er≠0 by simpa using hc16)];rfl
 have her:er=0:=by omega
 subst her;iterate 5 refine AX ?_
 refine .cl rfl call107 (evs1 rfl) (amU neg ds e hdd _) ?_;rw[hpd];iterate 4 refine AX ?_
 refine .seqTo 29 (.bool (decide (ds=[])||(decide (-4≤((ds.length:Int)+e))&&decide (((ds.length:Int)+e)≤15)))) [3,4,5,7] ?_ ?_
 ·refine AX ?_;refine .p rfl (zA U58 rfl Z9 (tm rfl)) ?_;iterate 3 refine AX ?_
  refine zC (t:=22) rfl (λhg22=>?_) (λhg22=>?_)
  ·have hh22:=hg22;try simp only[aO]at hh22
   iterate 8 refine AX ?_
   exact⟨rfl,zL rfl (by(rw[show decide (ds=[])=_ from hg22];rfl)) sX,rfl⟩
  have hh22:=hg22;try simp only[aM]at hh22
  iterate 3 refine AX ?_
  refine zC (t:=25) rfl (λhg25=>?_) (λhg25=>?_)
  ·have hh25:=hg25;try simp only[aO]at hh25
   iterate 5 refine AX ?_
   exact⟨rfl,zL rfl (by(rw[show decide (ds=[])=_ from hg22,show decide (-4≤((ds.length:Int)+e))=_ from hg25];rfl)) sX,rfl⟩
  have hh25:=hg25;try simp only[aM,dO]at hh25
  iterate 5 refine AX ?_
  exact⟨rfl,zL rfl (by(rw[show decide (ds=[])=_ from hg22,show decide (-4≤((ds.length:Int)+e))=_ from hg25];rfl)) sX,rfl⟩
 refine .sub [(29,_),(3,_),(4,_),(5,_),(7,_)] sX ?_;refine .cx rfl (λhc29=>?_) (λhc29=>?_)
 ·simp only[cN,bL,aO]at hc29;iterate 4 refine AX ?_
  refine .cl rfl call108 (.cons (tm rfl) (.cons (tm rfl) (.cons yK .nil))) (avO l hk sz neg ds e hsr _) ?_;iterate 6 refine AX ?_
  refine⟨?_,rfl⟩;unfold bsB
  dsimp only
  rw[aL (show¬((0:Int)≠0) by simp),aN hc29];rfl
 simp only[cC,bX,aM]at hc29;have hdn:ds≠[]:=hc29.1;have hdp:=bS.2 hdn;have hr1:qE ds (1-(ds.length:Int))=true:=by
  have h:=hsr;rw[atK hdn]at h ⊢;unfold atL at h ⊢
  grind
 iterate 5 refine AX ?_
 refine .p rfl (zA U58 rfl Z4 (tm rfl)) ?_;refine AX ?_;refine .p rfl (zA U58 rfl Z9 (tm rfl)) ?_;refine AX ?_;refine .p rfl (zA U58 rfl Z9 (tm rfl)) ?_;iterate 3 refine AX ?_
 refine .p rfl (zX zr58 pl58 (.cons (tm rfl) (.inl rfl) (.cons (tm rfl) (.inl rfl) (.cons (tm rfl) (.inl rfl) .nil))) rfl) (.cl rfl call108 (.cons (tm rfl) (.cons (tm rfl) (.cons yK .nil))) (avO l hk sz neg ds (1-(ds.length:Int)) hr1 _) ?_);rw[show(ds.length:Int)+(1-(ds.length:Int))=1 by omega,btS hdn aA];refine .p rfl (zS (tm rfl) (zO rfl) (by rw[zJ];simp only[aX,bN];omega)) ?_;iterate 10 refine AX ?_
 refine .cl rfl call109 (evs1 rfl) (itoaZ _ (apU ((ds.length:Int)+e)) (by unfold apU;simp only[bfM];split<;>split<;>omega) (by unfold apU;split<;>omega) _) ?_;iterate 3 refine AX ?_
 refine .seqToL [(8,.str (amO l neg ds++[69]++[if((ds.length:Int)+e)<1 then 45 else 43]))] [4,9] ?_ ?_
 ·iterate 6 refine AX ?_
  refine .cx rfl (λhc52=>?_) (λhc52=>?_)
  ·iterate 2 refine AX ?_
   refine .p rfl (zS (tm rfl) (zO rfl) (by rw[zJ];simp only[aP,aX,bN];omega)) ?_;iterate 2 refine AX ?_
   exact⟨rfl,(zM rfl (by(rw[aN aB];done)) sX),rfl⟩
  iterate 2 refine AX ?_
  refine .p rfl (zS (tm rfl) (zO rfl) (by rw[zJ];simp only[aP,aX,bN];omega)) ?_;iterate 2 refine AX ?_
  exact⟨rfl,(zM rfl (by(rw[aI];done)) sX),rfl⟩
 refine .sub [(8,_),(4,_),(9,_)] sX ?_;refine .seqToL [(8,.str (amO l neg ds++[69]++[if((ds.length:Int)+e)<1 then 45 else 43]++(if(dec (apU ((ds.length:Int)+e))).length<2 then([48]:List UInt8)else [])))] [4,9] ?_ ?_
 ·iterate 7 refine AX ?_
  refine .cx rfl (λhc59=>?_) (λhc59=>?_)
  ·iterate 2 refine AX ?_
   refine .p rfl (zS (tm rfl) (zO rfl) (by rw[zJ];simp only[aP,aX,bN];omega)) ?_;iterate 2 refine AX ?_
   exact⟨rfl,(zM rfl (by(rw[aN (show(dec (apU ((ds.length:Int)+e))).length<2 by omega)];done)) sX),rfl⟩
  refine AX ?_;exact⟨rfl,(zM rfl (by(rw[aL (show¬(dec (apU ((ds.length:Int)+e))).length<2 by omega),bP];done)) sX),rfl⟩
 refine .sub [(8,_),(4,_),(9,_)] sX ?_;iterate 4 refine AX ?_
 refine .p rfl (zS (tm rfl) (tm rfl) (by rw[zJ];simp only[aP,aX,bN];omega)) ?_;iterate 5 refine AX ?_
 refine⟨?_,rfl⟩;unfold bsB
 dsimp only
 rw[aL (show¬((0:Int)≠0) by simp),aL (show¬(ds=[]∨(-4≤((ds.length:Int)+e)∧((ds.length:Int)+e)≤15)) by rintro(q|q);exact hdn q;omega)];rfl
theorem awK(l:Loc)(hk:l.ok)(x:Nat)(hx:x<18446744073709551616)(H:Heap):ACall prog 45 [.int .u64 (x:Int),rL l] H (λy H'=>y= .str (bsB l (asV x 15))∧H'=H):=by
 have hsr:=apB x 15;have hsl:=azP x 15;generalize hs:asV x 15=s at *;obtain⟨⟨neg,ds,e⟩,er⟩:=s
 dsimp only at hsr hsl
 have hml:=zJ;have hrl:=qT hsr;have hdd:=qJ hsr;have hpd:=arT hsr;have hwl:=bcS (l:=l) (neg:=neg) (ds:=ds) (p:=(ds.length:Int)+e) aA hk;have hkk:=hk;obtain⟨hk1,hk2,hk3,hk4,hk5⟩:=hkk;have hel:(dec (apU ((ds.length:Int)+e))).length≤10:=(ahX aC).2 (by unfold apU;split<;>omega);have hmn:(amO l neg ds).length≤200:=by
  unfold amO
  grind
 have hzl:(if(dec (apU ((ds.length:Int)+e))).length<2 then([48]:List UInt8)else []).length≤1:=by grind
 refine ACall.of_body func45 rfl ntmps45 results45 rfl ?_;iterate 2 refine AX ?_
 refine .e rfl (aeC (tm rfl) (.inr ⟨_,rfl⟩)) ?_;iterate 6 refine AX ?_
 refine .cl rfl call28 (.cons (tm rfl) (.cons zH (.cons zH .nil))) (bhX x hx 15 aC aC _) ?_;rw[hs];unfold dT
 dsimp only
 iterate 3 refine AX ?_
 refine .al zr58 (λb5 hb5=>?_);refine .e0 (zN Z58 (tm rfl) (tm rfl) rfl rfl (.inr ⟨_,rfl⟩) (oS _ _ _) (lB rfl)) ?_;try first|rw[sS]|rw[sU aB]
 iterate 3 refine AX ?_
 refine AWP.frz (t:=5) rfl (hb5) ?_;iterate 7 refine AX ?_
 refine AWP.cond (tm rfl) (λhc16=>?_) (λhc16=>?_)
 ·try simp only[aO,ne_eq]at hc16
  iterate 7 refine AX ?_
  refine Ret.go (.cons (.tmp _ _ rfl) .nil) _ (hRa _) ?_;refine⟨?_,rfl⟩;unfold bsB
  dsimp only
  rw[aN (show er≠0 by simpa using hc16)];rfl
 try simp only[aM,ne_eq,dY]at hc16
 have her:er=0:=by omega
 subst her;iterate 5 refine AX ?_
 refine .cl rfl call79 (evs1 rfl) (akJ neg ds e aA _) ?_;rw[hpd];iterate 4 refine AX ?_
 refine AWP.seqTo 30 (.bool (decide ((ds.length:Int)=0)||(decide (-4≤((ds.length:Int)+e))&&decide (((ds.length:Int)+e)≤15)))) [3,4,5,7] ?_ ?_
 ·refine AX ?_;refine .p rfl (zA U58 rfl Z9 (tm rfl)) ?_;iterate 4 refine AX ?_
  refine zC (t:=23) rfl (λhg23=>?_) (λhg23=>?_)
  ·have hh23:=hg23;try simp only[aO]at hh23
   iterate 8 refine AX ?_
   exact⟨rfl,zL rfl (by(rw[show decide ((ds.length:Int)=0)=_ from hg23];rfl)) sX,rfl⟩
  have hh23:=hg23;try simp only[aM]at hh23
  iterate 3 refine AX ?_
  refine zC (t:=26) rfl (λhg26=>?_) (λhg26=>?_)
  ·have hh26:=hg26;try simp only[aO]at hh26
   iterate 5 refine AX ?_
   exact⟨rfl,zL rfl (by(rw[show decide ((ds.length:Int)=0)=_ from hg23,show decide (-4≤((ds.length:Int)+e))=_ from hg26];rfl)) sX,rfl⟩
  have hh26:=hg26;try simp only[aM,dO]at hh26
  iterate 5 refine AX ?_
  exact⟨rfl,zL rfl (by(rw[show decide ((ds.length:Int)=0)=_ from hg23,show decide (-4≤((ds.length:Int)+e))=_ from hg26];rfl)) sX,rfl⟩
 refine AWP.sub [(30,_),(3,_),(4,_),(5,_),(7,_)] sX ?_;refine AWP.cond (tm rfl) (λhc30=>?_) (λhc30=>?_)
 ·try simp only[aK]at hc30
  simp only[cN,bL,aO]at hc30;have hc30b:ds=[]∨(-4≤((ds.length:Int)+e)∧((ds.length:Int)+e)≤15):=hc30.imp (λq=>cF.1 aA) id;iterate 4 refine AX ?_
  refine .cl rfl call110 (.cons (tm rfl) (.cons (tm rfl) (.cons yK .nil))) (beA l hk neg ds e hsr _) ?_;iterate 5 refine AX ?_
  refine Ret.go (.cons (.tmp _ _ rfl) .nil) _ (hRa _) ?_;refine⟨?_,rfl⟩;unfold bsB
  dsimp only
  rw[aL (show¬((0:Int)≠0) by simp),aN hc30b];rfl
 try simp only[aK]at hc30
 simp only[cC,bX,aM]at hc30;have hdp:0<ds.length:=by omega
 have hdn:=bS.1 hdp;iterate 7 refine AX ?_
 refine AWP.seqToL [(8,.str (if neg=true then l.minus else []))] [3,4,5,7] ?_ ?_
 ·iterate 2 refine AX ?_
  refine .p rfl (zA U58 rfl Z4 (tm rfl)) ?_;iterate 3 refine AX ?_
  refine AWP.cond (tm rfl) (λhc35=>?_) (λhc35=>?_)
  ·try simp only[aK]at hc35
   refine AX ?_;refine .p rfl (zA U31 rfl Z9 (tm rfl)) (.p rfl (qH G9 (tm rfl)) (.as rfl rfl (.nil ?_)));exact⟨rfl,(zM rfl (by(rw[aN aB];done)) sX),rfl⟩
  try simp only[aK]at hc35
  refine .skip ?_;exact⟨rfl,(zM rfl (by(rw[aL (by(rw[hc35];decide))];done)) sX),rfl⟩
 refine AWP.sub [(8,_),(3,_),(4,_),(5,_),(7,_)] sX ?_;have hmw:(if neg=true then l.minus else []).length≤10:=by grind
 refine .seq (.region (.mv rfl rfl (.p rfl (zA U58 rfl Z9 (tm rfl)) (.p rfl (qH G9 (tm rfl)) (.p rfl (alW U9 (tm rfl) zH aA aA) (.p rfl (zS (tm rfl) (tm rfl) (by rw[zJ];simp only[aS];omega)) (.as rfl rfl (.nil ?_))))))));refine Next.go ?_;refine AWP.seqToL [(8,.str (amO l neg ds))] [4,7] ?_ ?_
 ·refine .seq (.region (.p rfl (zA U58 rfl Z9 (tm rfl)) ?_));iterate 5 refine AX ?_
  refine AWP.cond (tm rfl) (λhc46=>?_) (λhc46=>?_)
  ·try simp only[aO]at hc46
   refine AWP.draw [(0,true),(1,true),(2,true),(3,true),(4,true),(5,true),(6,true),(7,true),(8,true)] rfl aE ?_;refine AX ?_;refine .p rfl rfl (zA U31 rfl Z9 (tm rfl)) ?_;refine AX ?_;refine .p rfl rfl (zS (tm rfl) (tm rfl) (by rw[zJ];simp only[aP,aS];omega)) (.p rfl rfl (zA U58 rfl Z9 (tm rfl)) ?_);iterate 2 refine AX ?_
   refine .p rfl rfl (zS (tm rfl) (tm rfl) (by rw[zJ];simp only[aP,aS,bD];omega)) ?_;iterate 2 refine AX ?_
   exact⟨rfl,(zM rfl (by unfold amO;first|(rw[aN (show(1:Int)<(ds.length:Int) by omega),aQ];first|done|(simp only[aQ];rfl))|(rw[aL (show¬(1:Int)<(ds.length:Int) by omega),bP];rfl)) sX),rfl⟩
  try simp only[aM,cO]at hc46
  refine AX ?_;exact⟨rfl,(zM rfl (by unfold amO;first|(rw[aN (show(1:Int)<(ds.length:Int) by omega),aQ];first|done|(simp only[aQ];rfl))|(rw[aL (show¬(1:Int)<(ds.length:Int) by omega),bP];rfl)) sX),rfl⟩
 refine AWP.sub [(8,_),(4,_),(7,_)] sX ?_;iterate 10 refine AX ?_
 refine .p rfl (zS (tm rfl) (zO rfl) (by rw[zJ];simp only[aX,bN];omega)) ?_;iterate 3 refine AX ?_
 refine AWP.seqToL [(9,.int .i64 ((apU ((ds.length:Int)+e):Nat):Int)),(8,.str (amO l neg ds++[69]++[if((ds.length:Int)+e)<1 then 45 else 43]))] [4] ?_ ?_
 ·iterate 6 refine AX ?_
  refine AWP.cond (tm rfl) (λhc60=>?_) (λhc60=>?_)
  ·try simp only[aO]at hc60
   iterate 9 refine AX ?_
   refine .p rfl (zS (tm rfl) (zO rfl) (by rw[zJ];simp only[aP,aX,bN];omega)) ?_;iterate 2 refine AX ?_
   exact⟨rfl,(zM rfl (by(congr 1;unfold apU;rw[aJ];omega)) (zM rfl (by(rw[aJ];done)) (zI rfl yJ))),rfl⟩
  try simp only[aM,cO]at hc60
  iterate 2 refine AX ?_
  refine .p rfl (zS (tm rfl) (zO rfl) (by rw[zJ];simp only[aP,aX,bN];omega)) ?_;iterate 2 refine AX ?_
  exact⟨rfl,(zM rfl (by(congr 1;unfold apU;rw[aI];omega)) (zM rfl (by(rw[aI];done)) (zI rfl yJ))),rfl⟩
 refine AWP.sub [(9,_),(8,_),(4,_)] sX ?_;have hen:apU ((ds.length:Int)+e)≤200000:=by unfold apU;split<;>omega
 have hd2:=ckT (n:=apU ((ds.length:Int)+e));refine AWP.seqToL [(8,.str (amO l neg ds++[69]++[if((ds.length:Int)+e)<1 then 45 else 43]++(if(dec (apU ((ds.length:Int)+e))).length<2 then([48]:List UInt8)else [])))] [9,4] ?_ ?_
 ·iterate 6 refine AX ?_
  refine AWP.cond (tm rfl) (λhc68=>?_) (λhc68=>?_)
  ·try simp only[aO]at hc68
   iterate 2 refine AX ?_
   refine .p rfl (zS (tm rfl) (zO rfl) (by rw[zJ];simp only[aP,aX,bN];omega)) ?_;iterate 2 refine AX ?_
   exact⟨rfl,(zM rfl (by(rw[aN (show(dec (apU ((ds.length:Int)+e))).length<2 by omega)];done)) sX),rfl⟩
  try simp only[aM,cO]at hc68
  refine AX ?_;exact⟨rfl,(zM rfl (by(rw[aL (show¬(dec (apU ((ds.length:Int)+e))).length<2 by omega),bP];done)) sX),rfl⟩
 refine AWP.sub [(8,_),(9,_),(4,_)] sX ?_;iterate 4 refine AX ?_
 refine .cl rfl call111 (evs1 rfl) (rnumberZ _ (apU ((ds.length:Int)+e)) aA aA _) (.p rfl (zS (tm rfl) (tm rfl) (by rw[zJ];simp only[aP,aX,bN];omega)) ?_);iterate 4 refine AX ?_
 refine Ret.go (.cons (.tmp _ _ rfl) .nil) _ (hRa _) ?_;refine⟨?_,rfl⟩;unfold bsB
 dsimp only
 rw[aL (show¬((0:Int)≠0) by simp),aL (show¬(ds=[]∨(-4≤((ds.length:Int)+e)∧((ds.length:Int)+e)≤15)) by rintro(q|q);exact hdn q;omega)];rfl
end
end Go.Proofs.YtmmgbnolccpjoaaGreatDoor
