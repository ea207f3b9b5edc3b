import Derived.Test.YteedncdcbgplfaaGreatDoorD2
set_option maxHeartbeats 1000000
namespace Go.Proofs.YteedncdcbgplfaaGreatDoor
open Go.Proofs.Tryz
open Go Go.RowKit
variable{k m:Nat}{ds:List UInt8}
section
set_option maxRecDepth 100000
def aeX:Nat→Nat→Nat×Nat
 |m,0=>(m,0)
 |m,k+1=>if m%2=0∧0<m then aeX (m/2) k else(m,k+1)
theorem ajR:∀(k m:Nat),(aeX m k).1≤m∧(aeX m k).2≤k
 |0,m=>⟨bA _,bA _⟩
 |k+1,m=>by
  unfold aeX;split
  ·have:=ajR k (m/2);omega
  exact⟨bA _,bA _⟩
theorem bgB(h:m%2=0)(hm:0<m)(hk:0<k):aeX m k=aeX (m/2) (k-1):=by
 obtain⟨k,rfl⟩:∃q,k=q+1:=⟨k-1,by omega⟩;rw[aeX,aM ⟨h,hm⟩];rfl
theorem bbA(h:k=0∨m=0∨m%2≠0):aeX m k=(m,k):=by
 cases k with
 |zero=>rfl
 |succ k=>rw[aeX,aI]
def ofN(neg:Bool)(m:Nat)(e:Int):Bool×List UInt8×Int:=
 if 0≤e then(mkN neg (dec (m*2^e.toNat)) 0).1 else(mkN neg (dec ((aeX m (-e).toNat).1*5^(aeX m (-e).toNat).2)) (-((aeX m (-e).toNat).2:Int))).1
def ofR(m:Nat)(e:Int):Nat:=if 0≤e then m*2^e.toNat else(aeX m (-e).toNat).1*5^(aeX m (-e).toNat).2
def ofX(m:Nat)(e:Int):Int:=if 0≤e then 0 else-((aeX m (-e).toNat).2:Int)
theorem bcZ(neg:Bool)(m:Nat)(e:Int):ofN neg m e=(mkN neg (dec (ofR m e)) (ofX m e)).1:=by
 unfold ofN ofR ofX;split<;>rfl
def dD(d:Bool×List UInt8×Int):AV:=dA d.1 d.2.1 d.2.2
theorem akJ(hk:k≤3300):18014398509481984*2^k<BIG:=by
 obtain⟨K,hK,hB⟩:∃K,K=8192∧BIG=2^K:=⟨32*256,rfl,bfI _ rfl⟩;rw[hB,show(18014398509481984:Nat)=2^54 by decide,←eL];exact Nat.pow_lt_pow_right aC aA
theorem afN(hm:m<18014398509481984)(hk:k≤1075):m*5^k<BIG∧5^k<BIG:=by
 have h1:5^k≤2^(3*k):=by rw[Nat.pow_mul];exact Nat.pow_le_pow_left aC k
 have h0:5^k≤18014398509481984*5^k:=Nat.le_mul_of_pos_left _ aC;have h2:18014398509481984*5^k<BIG:=bG (eJ _ h1) (akJ aA);exact⟨bG (bC _ aA) h2,bG h0 h2⟩
theorem aqK(hm:m<18014398509481984)(hk:k≤972):m*2^k<BIG:=by
 exact bG (bC _ aA) (akJ aA)
theorem afC(hm:m<18014398509481984):m<BIG:=Nat.lt_trans hm (by unfold BIG;decide+kernel)
theorem bdO(h:0<m):(zK m).getD 0 0&&&1=m%2:=by
 rw[aaI h,eH,show(1:Nat)=2^1-1 by decide,eE];omega
theorem bjP{e:Int}(hm:m<18014398509481984)(he: -1075≤e∧e≤972):ofR m e<BIG:=by
 unfold ofR;split
 ·exact aqK hm aA
 have h:=ajR (-e).toNat m;exact(afN aA aA).1
theorem bcX{e:Int}(he: -1075≤e∧e≤972): -1075≤ofX m e∧ofX m e≤0:=by
 unfold ofX;have h:=ajR (-e).toNat m;split<;>omega
theorem shlZ(a s:Nat)(q:Int)(hq:q=(s:Int))(h:a*2^s<BIG)(hs:s<1000000000):Fn 168 [aaS a,.int .i64 q] (.tuple [aaS (a*2^s),.int .i64 0]):=by
 intro H;subst hq;exact shlB a s h hs H
theorem powZ(b n:Nat)(q:Int)(hq:q=(n:Int))(hb:2≤b)(hb2:b≤1000000)(hn2:n<1000000000)(h:b^n<BIG):Fn 170 [.int .i64 (b:Int),.int .i64 q] (.tuple [aaS (b^n),.int .i64 0]):=by
 intro H;subst hq;exact asJ b n hb hb2 hn2 h H
def bnA(neg:Bool)(m0 k0 b:Nat)(H:Heap):Nat→Env→Heap→Prop:=λk env H1=>∃m k1:Nat,m<18014398509481984∧k1≤1075∧aeX m k1=aeX m0 k0∧env=[(0,.bool neg),(1,aaS m),(2,.int .i64 (-(k1:Int))),(6,.ptr (some ⟨b,0,none⟩))]∧H1=H.set b (.box 61 [.bool false,.str [],.int .i64 0])∧k=k1
theorem akC(neg:Bool)(m:Nat)(e:Int)(hm:m<18014398509481984)(he: -1075≤e∧e≤972):Fn 92 [.bool neg,aaS m,.int .i64 e] (dD (ofN neg m e)):=by
 intro H;have hmB:=afC hm;refine .of_body func92 rfl ntmps92 results92 rfl ?_;iterate 2 refine AX ?_
 refine .al zr61 (λb6 hb6=>?_);iterate 7 refine AX ?_
 refine .seqToL [(1,aaS (ofR m e)),(7,.int .i64 (ofX m e))] [0,6] ?_ ?_
 ·iterate 6 refine AX ?_
  refine .cx rfl (λhc13=>?_) (λhc13=>?_)
  ·iterate 3 refine AX ?_
   refine .cl rfl C168 (evs2 rfl rfl) (shlZ m e.toNat e aA (aqK hm aA) aA _) ?_;iterate 5 refine AX ?_
   exact⟨rfl,(yD rfl (by(unfold ofR;rw[aJ];done)) (yD rfl (by(unfold ofX;rw[aJ];done)) sX)),rfl⟩
  have hen:e= -(((-e).toNat:Nat):Int):=by omega
  iterate 2 refine AX ?_
  refine .loopW (bnA neg m (-e).toNat b6 H) ((-e).toNat) ⟨m,(-e).toNat,hm,by omega,rfl,rfl,rfl,rfl⟩ (zJ rfl (zJ rfl (yD rfl (by rw[←hen]) (zJ rfl yF)))) (hRa _) ?_;rintro _ _ _ ⟨m1,k1,hm1,hk1,hst,rfl,rfl,hk⟩;have hg0:=Limbs.getD (zS m1) 0;refine AX ?_;refine .seqTo 33 (.bool (decide (-(k1:Int)<0)&&decide ((0:Int)<((zK m1).length:Int))&&decide (((((zK m1).getD 0 0&&&1:Nat)):Int)=((0:Nat):Int)))) [0,1,2,6] ?_ ?_
  ·iterate 4 refine AX ?_
   refine zB (t:=22) rfl (λhg22=>?_) (λhg22=>?_)
   ·have hh22:=hg22;try simp only[aV]at hh22
    iterate 5 refine AX ?_
    refine zB (t:=27) rfl (λhg27=>?_) (λhg27=>?_)
    ·have hh27:=hg27;try simp only[aV]at hh27
     refine AX ?_;refine .gp rfl rfl rfl aB (yW (0) U159 Z210 (tm rfl) zG aA aA) ?_;refine AX ?_;refine .gp rfl rfl rfl aB (afU (tm rfl) (yQ 1) aB aA) ?_;iterate 3 refine AM ?_
     exact⟨rfl,zP rfl (by(rw[show decide (-(k1:Int)<0)=_ from hg22,show decide ((0:Int)<((zK m1).length:Int))=_ from hg27];rfl)) sX,rfl⟩
    have hh27:=hg27;try simp only[aT,cI]at hh27
    iterate 7 refine AX ?_
    exact⟨rfl,zP rfl (by(rw[show decide (-(k1:Int)<0)=_ from hg22,show decide ((0:Int)<((zK m1).length:Int))=_ from hg27];rfl)) sX,rfl⟩
   have hh22:=hg22;try simp only[aT,cI]at hh22
   iterate 12 refine AX ?_
   exact⟨rfl,zP rfl (by(rw[show decide (-(k1:Int)<0)=_ from hg22];rfl)) sX,rfl⟩
  refine .sub [(33,_),(0,_),(1,_),(2,_),(6,_)] sX ?_;refine .cx rfl (λhc33=>?_) (λhc33=>?_)
  ·simp only[bB,aV]at hc33;obtain⟨⟨hk0,hl0⟩,hb0⟩:=hc33;have hm0:0<m1:=by rcases bJ m1 with h|h;rw[h]at hl0;exact absurd hl0 aC;exact h
   rw[bdO hm0]at hb0;have hst2:=bgB (m:=m1) (k:=k1) aA hm0 aA;iterate 6 refine AX ?_
   refine .cl rfl call169 (.cons (tm rfl) (.cons zG .nil)) (shrB m1 1 (afC hm1) aC _) ?_;iterate 14 refine AX ?_
   refine Round.mk ⟨m1/2,k1-1,by omega,by omega,by rw[←hst2];exact hst,rfl,rfl,rfl⟩ (zJ rfl (yD rfl (by rw[Nat.pow_one]) (yD rfl (by congr 1;omega) (zJ rfl yF)))) (hRa _) aA
  simp only[dB,aT]at hc33;have hse:aeX m1 k1=(m1,k1):=bbA (by
    rcases bJ m1 with h|h
    ·exact .inr (.inl h)
    have hnl:=bhI h;rw[bdO h]at hc33;omega)
  rw[hst]at hse;iterate 9 refine AX ?_
  refine .cl rfl call170 (.cons zG (evs1 rfl)) (powZ 5 k1 _ aA aC aC aA (afN hm1 hk1).2 _) ?_;iterate 11 refine AX ?_
  refine .cl rfl C106 (evs2 rfl rfl) (mulB m1 (5^k1) (afC hm1) (afN hm1 hk1).2 (afN hm1 hk1).1 _) ?_;iterate 10 refine AX ?_
  exact⟨rfl,(yD rfl (by(unfold ofR;rw[aI,hse];done)) (yD rfl (by(unfold ofX;rw[aI,hse];done)) sX)),rfl⟩
 refine .sub [(1,_),(7,_),(0,_),(6,_)] sX ?_;have hRB:=bjP hm he;have hX:=bcX (m:=m) he;iterate 4 refine AX ?_
 refine .cl rfl call109 (evs1 rfl) (ajL (ofR m e) hRB _) ?_;refine AX ?_;refine .cl rfl call71 (evs3 rfl rfl rfl) (aiZ neg (dec (ofR m e)) (ofX m e) (apQ _) (bK (beM hRB) aC) aA _) ?_;iterate 3 refine AX ?_
 refine .al zr61 (λb10 hb10=>?_);have hn6_10:=Heap.ne_of (oS _ _ _) hb10;iterate 4 refine AX ?_
 refine .frz (t:=10) rfl (hb10) ?_;iterate 6 refine AX ?_
 refine .frz (t:=6) rfl (hb6) ?_;iterate 2 refine AX ?_
 refine⟨?_,rfl⟩;rw[bcZ];rfl
def agY(x:Nat):(Bool×List UInt8×Int)×Int:=if 3≤yT x then((false,[],0),11)else(ofN (auK x) (zZ x) (zN x),0)
def aoK(x n:Nat):(Bool×List UInt8×Int)×Int:=if 3≤yT x then((false,[],0),11)else bkP (agY x).1.1 (agY x).1.2.1 (agY x).1.2.2 n
theorem ahL(neg:Bool)(m:Nat)(e:Int):yL (ofN neg m e).2.1 (ofN neg m e).2.2=true:=by
 rw[bcZ];exact ajW (apQ _)
theorem biA(x:Nat):(agY x).2=if 3≤yT x then 11 else 0:=by unfold agY;split<;>rfl
theorem acJ(x:Nat):yL (agY x).1.2.1 (agY x).1.2.2=true:=by
 unfold agY;split
 ·rfl
 exact ahL _ _ _
theorem amT(x:Nat)(hx:x<18446744073709551616):Fn 38 [.int .u64 (x:Int)] (dT (agY x)):=by
 intro H;have hpm:=ahK x;have hpe:=acU x;refine .of_body func38 rfl ntmps38 results38 rfl ?_;iterate 2 refine AX ?_
 refine .al zr61 (λb2 hb2=>?_);iterate 7 refine AX ?_
 refine .cl rfl C31 (evs1 rfl) (acK x hx _) ?_;iterate 3 refine AX ?_
 refine .cx rfl (λhc9=>?_) (λhc9=>?_)
 ·iterate 2 refine AX ?_
  refine .p rfl (qN zr61 pl61 .nil rfl) ?_;iterate 4 refine AX ?_
  refine .frz (t:=2) rfl (hb2) ?_;iterate 3 refine AX ?_
  refine⟨?_,rfl⟩;unfold agY;rw[aJ];rfl
 iterate 5 refine AX ?_
 refine .cl rfl call91 (evs1 rfl) (amH x hx _) ?_;iterate 13 refine AX ?_
 refine .cl rfl C93 (evs1 rfl) (acD (zZ x) aA _) ?_;refine AX ?_;refine .cl rfl call92 (evs3 rfl rfl rfl) (akC (auK x) (zZ x) (zN x) aA hpe _) ?_;iterate 4 refine AX ?_
 refine .frz (t:=2) rfl (hb2) ?_;iterate 2 refine AX ?_
 refine⟨?_,rfl⟩;unfold agY;rw[aI];rfl
theorem axG(x:Nat)(hx:x<18446744073709551616)(n:Nat)(hn:0<n)(hn2:n≤100000):Fn 87 [.int .u64 (x:Int),.int .i64 (n:Int),.int .i64 1] (dT (aoK x n)):=by
 intro H;refine .of_body func87 rfl ntmps87 results87 rfl ?_;iterate 2 refine AX ?_
 refine .al zr61 (λb6 hb6=>?_);iterate 6 refine AX ?_
 refine .cl rfl call38 (evs1 rfl) (amT x hx _) ?_;iterate 3 refine AX ?_
 refine .al zr61 (λb8 hb8=>?_);have hn6_8:=Heap.ne_of (oS _ _ _) hb8;iterate 4 refine AX ?_
 refine .frz (t:=8) rfl (hb8) ?_;iterate 7 refine AX ?_
 refine .cx rfl (λhc16=>?_) (λhc16=>?_)
 ·have hk3:3≤yT x:=by rcases bO (yT x) 3 with h|h;exact absurd (show(agY x).2=0 by unfold agY;rw[aI]) aB;exact h
  iterate 8 refine AX ?_
  refine .frz (t:=6) rfl (hb6) ?_;iterate 3 refine AX ?_
  refine⟨?_,rfl⟩;unfold aoK;rw[aM hk3];rw[show agY x=((false,[],0),11) by unfold agY;rw[aM hk3]];rfl
 have hk3:¬3≤yT x:=λh=>by rw[biA,aM h]at hc16;exact absurd hc16 aC
 iterate 7 refine AX ?_
 refine .cl rfl call164 (evs3 rfl rfl rfl) (bfA _ _ _ n (acJ x) hn hn2 _) ?_;iterate 6 refine AX ?_
 refine .frz (t:=6) rfl (hb6) ?_;iterate 2 refine AX ?_
 refine⟨?_,rfl⟩;unfold aoK;rw[aL hk3];rfl
end
section
open Go Go.RowKit
set_option maxRecDepth 100000
structure Loc where
 name:List UInt8
 dc:List UInt8
 grp:List UInt8
 lst:List UInt8
 minus:List UInt8
 pct:List UInt8
 cur:List UInt8
 first:Bool
 space:Bool
 second:Nat
def pL(l:Loc)(sz:AV):AV:=.agg [.str l.name,.str l.dc,.str l.grp,.str l.lst,.str l.minus,.str l.pct,.str l.cur,.bool l.first,.bool l.space,sz]
def rL(l:Loc):AV:=.agg [.str l.name,.str l.dc,.str l.grp,.str l.lst,.str l.minus,.str l.pct,.str l.cur,.bool l.first,.bool l.space,.int .i64 (l.second:Int)]
def Loc.ok(l:Loc):Prop:=l.dc.length≤10∧l.grp.length≤10∧l.minus.length≤10∧l.cur.length≤10∧l.pct.length≤10
def qX(ds:List UInt8)(p:Int):(List UInt8×List UInt8)×Bool:=
 if 400<p∨400<(ds.length:Int)-p then(([],[]),false)
 else if p≤0 then(([48],List.replicate (-p).toNat 48++ds),true)
 else if(ds.length:Int)≤p then((ds++List.replicate (p-ds.length).toNat 48,[]),true)
 else((ds.take p.toNat,ds.drop p.toNat),true)
def agE(l:Loc)(neg:Bool)(ds:List UInt8)(p:Int):List UInt8:=
 if(qX ds p).2=true then(if neg=true then l.minus else [])++((qX ds p).1.1++(if(qX ds p).1.2=[]then []else l.dc++(qX ds p).1.2))else []
theorem aqL{p:Int}(hl:ds.length≤1100):(qX ds p).1.1.length≤2000∧(qX ds p).1.2.length≤2000:=by
 unfold qX;split
 ·simp
 split
 ·simp only[aQ,aZ,aW,aY];omega
 split
 ·simp only[aQ,aZ,aY];omega
 simp only[aU,bD];omega
theorem baN{l:Loc}{neg:Bool}{p:Int}(hl:ds.length≤1100)(hk:l.ok):(agE l neg ds p).length≤5000:=by
 have h:=aqL (p:=p) hl;obtain⟨h1,h2,h3,h4,h5⟩:=hk;unfold agE;split
 ·simp only[aQ];have a1:(if neg=true then l.minus else []).length≤10:=by split<;>first|omega|(simp;done)|(simp;omega)
  have a2:(if(qX ds p).1.2=[]then []else l.dc++(qX ds p).1.2).length≤2010:=by split<;>first|omega|(simp;done)|(simp;omega)
  omega
 simp
theorem qW{e:Int}(h:yL ds e=true):yC ds e=(ds.length:Int)+e:=by unfold yC;rw[aM h]
theorem asW(neg:Bool)(ds:List UInt8)(e:Int)(hr:yL ds e=true):Fn 165 [dA neg ds e] (.tuple [.str (qX ds ((ds.length:Int)+e)).1.1,.str (qX ds ((ds.length:Int)+e)).1.2,.bool (qX ds ((ds.length:Int)+e)).2]):=by
 intro H;have hpd:=qW hr;have hrl:=yX hr;have hdd:=qO hr;have hml:=zT;generalize hpp:(ds.length:Int)+e=p at *;refine .of_body func165 rfl ntmps165 results165 rfl ?_;iterate 9 refine AX ?_
 refine .draw [(0,true),(2,true),(3,true),(4,true),(1,false),(5,true),(6,true)] rfl aE ?_;refine AX ?_;refine .p rfl rfl (zA U61 rfl Z9 (tm rfl)) ?_;iterate 2 refine AX ?_
 refine .s rfl rfl (zE C88 (evs1 rfl) (abU neg ds e hdd _)) ?_;rintro _ _ ⟨rfl,hH⟩;obtain rfl:=hH.symm;rw[hpd];iterate 13 refine AX ?_
 refine .cx rfl (λhc12=>?_) (λhc12=>?_)
 ·iterate 11 refine AX ?_
  refine⟨?_,rfl⟩;unfold qX;have hn0:ds=[]:=dS.1 aA;have he0:p=0:=by rw[hn0]at hpp;have he:=hr;rw[hn0]at he;unfold yL at he;rw[aM rfl]at he;have:=of_decide_eq_true he;simp only[aY]at hpp;omega
  rw[hn0,he0];rfl
 refine .seqTo 15 (.bool (decide ((400:Int)<p)||decide ((400:Int)<(ds.length:Int)-p))) [1,2,3,4,5,6] ?_ ?_
 ·iterate 4 refine AX ?_
  refine zB (t:=18) rfl (λhg18=>?_) (λhg18=>?_)
  ·have hh18:=hg18;try simp only[aV]at hh18
   iterate 7 refine AX ?_
   exact⟨rfl,zP rfl (by(rw[show decide ((400:Int)<p)=_ from hg18];rfl)) sX,rfl⟩
  have hh18:=hg18;try simp only[aT,cI]at hh18
  iterate 7 refine AX ?_
  exact⟨rfl,zP rfl (by(rw[show decide ((400:Int)<p)=_ from hg18];rfl)) sX,rfl⟩
 refine .sub [(15,_),(1,_),(2,_),(3,_),(4,_),(5,_),(6,_)] sX ?_;refine .cx rfl (λhc15=>?_) (λhc15=>?_)
 ·simp only[Bool.or_eq_true,aV]at hc15;iterate 11 refine AX ?_
  refine⟨?_,rfl⟩;unfold qX;rw[aM hc15];rfl
 simp only[eC,aT]at hc15;iterate 7 refine AX ?_
 refine .cx rfl (λhc24=>?_) (λhc24=>?_)
 ·refine AX ?_;refine .draw [(0,true),(1,true),(3,true),(4,true),(2,false),(5,true),(6,true),(7,true),(8,true)] rfl aE ?_;iterate 2 refine AX ?_
  refine .p rfl rfl (zA U61 rfl Z9 (tm rfl)) ?_;refine AX ?_;refine .s rfl rfl (zE C103 (.cons (zM rfl) (evs1 rfl)) (repeatZ 48 _ (-p).toNat aA aA _)) ?_;rintro _ _ ⟨rfl,hH⟩;obtain rfl:=hH.symm;refine .p rfl rfl (zU (tm rfl) (tm rfl) (by rw[zT,aZ];omega)) ?_;iterate 9 refine AX ?_
  refine⟨?_,rfl⟩;unfold qX;rw[aI,aJ];rfl
 iterate 8 refine AX ?_
 refine .cx rfl (λhc33=>?_) (λhc33=>?_)
 ·refine AX ?_;refine .draw [(0,true),(1,true),(2,true),(3,true),(4,true),(5,false),(6,true),(7,true),(8,true),(9,true)] rfl aE ?_;refine .p rfl rfl (zA U61 rfl Z9 (tm rfl)) ?_;iterate 4 refine AX ?_
  refine .s rfl rfl (zE C103 (.cons (zM rfl) (evs1 rfl)) (repeatZ 48 _ (p-ds.length).toNat aA aA _)) ?_;rintro _ _ ⟨rfl,hH⟩;obtain rfl:=hH.symm;refine .p rfl rfl (zU (tm rfl) (tm rfl) (by rw[zT,aZ];omega)) ?_;iterate 9 refine AX ?_
  refine⟨?_,rfl⟩;unfold qX;rw[aI,aI,aJ];rfl
 iterate 4 refine AX ?_
 refine .draw [(0,true),(1,true),(2,true),(3,true),(4,true),(5,true),(6,true),(7,true),(8,true),(9,true),(10,true)] rfl aE ?_;refine .p rfl rfl (zA U61 rfl Z9 (tm rfl)) ?_;iterate 3 refine AX ?_
 refine .p rfl rfl (zA U61 rfl Z9 (tm rfl)) ?_;iterate 10 refine AX ?_
 refine⟨?_,rfl⟩;unfold qX;rw[aI,aI,aI];rfl
theorem amG(l:Loc)(hk:l.ok)(sz:AV)(neg:Bool)(ds:List UInt8)(e:Int)(hr:yL ds e=true):Fn 89 [pL l sz,dA neg ds e,.bool false] (.str (agE l neg ds ((ds.length:Int)+e))):=by
 intro H;have hsl:=aqL (ds:=ds) (p:=(ds.length:Int)+e) (yX hr).1;have hml:=zT;have hdd:=qO hr;obtain⟨hk1,hk2,hk3,hk4,hk5⟩:=hk;generalize hsv:qX ds ((ds.length:Int)+e)=sv at *;obtain⟨⟨w,r⟩,ok⟩:=sv;obtain⟨hsl1,hsl2⟩:=hsl;simp only[]at hsl1 hsl2;refine .of_body func89 rfl ntmps89 results89 rfl ?_;iterate 10 refine AX ?_
 refine .cl rfl call165 (evs1 rfl) (asW neg ds e hr _) ?_;rw[hsv]
 dsimp only
 iterate 10 refine AX ?_
 refine .seqTo 22 (.bool (!ok)) [2,3,4,6,7,8] ?_ ?_
 ·iterate 4 refine AX ?_
  refine zB (t:=18) rfl (λhg18=>?_) (λhg18=>?_)
  ·have hh18:=hg18;try simp only[Bool.not_eq_true']at hh18
   iterate 5 refine AX ?_
   exact⟨rfl,zP rfl (by(cases ok<;>first|rfl|(simp at hg18))) sX,rfl⟩
  have hh18:=hg18;try simp only[Bool.not_eq_false']at hh18
  refine AX ?_;refine .gs rfl rfl rfl aB (zE C152 (evs1 rfl) (acX neg ds e hdd _)) ?_;rintro _ _ ⟨rfl,hH⟩;obtain rfl:=hH.symm;rw[hr];iterate 3 refine AX ?_
  exact⟨rfl,zP rfl (by(cases ok<;>first|rfl|(simp at hg18))) sX,rfl⟩
 refine .sub [(22,_),(2,_),(3,_),(4,_),(6,_),(7,_),(8,_)] sX ?_;refine .cx rfl (λhc22=>?_) (λhc22=>?_)
 ·iterate 8 refine AX ?_
  refine⟨?_,rfl⟩;unfold agE;rw[hsv];simp only[];rw[aL (show¬ok=true by simpa using hc22)];rfl
 iterate 8 refine AX ?_
 refine .cond_false (tm rfl) aD ?_;iterate 2 refine AX ?_
 refine .seqToL [(7,.str ((if neg=true then l.minus else [])++w))] [3,6,8] ?_ ?_
 ·iterate 2 refine AX ?_
  refine .p rfl (zA U61 rfl Z4 (tm rfl)) ?_;iterate 3 refine AX ?_
  refine .cx rfl (λhc28=>?_) (λhc28=>?_)
  ·refine AX ?_;refine .p rfl (zA U32 rfl Z9 (tm rfl)) ?_;iterate 2 refine AX ?_
   refine .p rfl (zU (tm rfl) (tm rfl) (by rw[zT];omega)) ?_;iterate 2 refine AX ?_
   exact⟨rfl,(yD rfl (by(rw[aM aB];done)) sX),rfl⟩
  refine AX ?_;exact⟨rfl,(yD rfl (by(rw[aL (by(rw[hc28];decide))];rfl)) sX),rfl⟩
 refine .sub [(7,_),(3,_),(6,_),(8,_)] sX ?_;have hmw:(if neg=true then l.minus else []).length≤10:=by split<;>first|omega|(simp;done)|(simp;omega)
 iterate 7 refine AX ?_
 refine .cx rfl (λhc34=>?_) (λhc34=>?_)
 ·iterate 2 refine AX ?_
  refine .p rfl (zA U32 rfl Z9 (tm rfl)) ?_;iterate 2 refine AX ?_
  refine .p rfl (zU (tm rfl) (tm rfl) (by rw[zT];omega)) (.p rfl (zU (tm rfl) (tm rfl) (by simp only[zT,aQ];first|omega|(split<;>first|omega|(simp;done)|(simp;omega)))) ?_);iterate 11 refine AX ?_
  refine⟨?_,rfl⟩;unfold agE;rw[hsv];simp only[];rw[aM (show ok=true by simpa using hc22),aL (show¬r=[] by simpa using hc34),bE];rfl
 iterate 10 refine AX ?_
 refine⟨?_,rfl⟩;unfold agE;rw[hsv];simp only[];rw[aM (show ok=true by simpa using hc22),aM (show r=[] by simpa using hc34),bT];rfl
end
section
open Go Go.RowKit
set_option maxRecDepth 100000
theorem itoaZ(q:Int)(n:Nat)(hq:q=(n:Int))(hn:n≤9223372036854775807):Fn 90 [.int .i64 q] (.str (dec n)):=by
 intro H;subst hq;exact itoaA n hn H
def arN(l:Loc)(neg:Bool)(ds:List UInt8):List UInt8:=(if neg=true then l.minus else [])++ds.take 1++(if(1:Int)<(ds.length:Int)then l.dc++ds.drop 1 else [])
def awU(p:Int):Nat:=(if p<1 then 1-p else p-1).toNat
def bfQ(l:Loc)(s:(Bool×List UInt8×Int)×Int):List UInt8:=
 if s.2≠0 then []
 else if s.1.2.1=[]∨(-4≤(s.1.2.1.length:Int)+s.1.2.2∧(s.1.2.1.length:Int)+s.1.2.2≤15)then agE l s.1.1 s.1.2.1 ((s.1.2.1.length:Int)+s.1.2.2)
 else arN l s.1.1 s.1.2.1++[69]++[if(s.1.2.1.length:Int)+s.1.2.2<1 then 45 else 43]++(if(dec (awU ((s.1.2.1.length:Int)+s.1.2.2))).length<2 then [48]else [])++dec (awU ((s.1.2.1.length:Int)+s.1.2.2))
theorem baM{l:Loc}{neg:Bool}(h:ds≠[])(hl:ds.length≤300):agE l neg ds 1=arN l neg ds:=by
 have hp:=cG.2 h;unfold agE arN qX;rw[aL (show¬((400:Int)<1∨400<(ds.length:Int)-1) by omega),aL (show¬(1:Int)≤0 by decide)];by_cases h1:(ds.length:Int)≤1
 ·rw[aM h1,aL (show¬(1:Int)<(ds.length:Int) by omega),aX (show ds.length≤1 by omega)];rw[show((1:Int)-(ds.length:Int)).toNat=0 by omega];simp
 rw[aL h1,aM (show(1:Int)<(ds.length:Int) by omega)];have hd:ds.drop 1≠[]:=λq=>by have:=congrArg List.length q;rw[bD]at this;simp only[aY]at this;omega
 show(if true=true then _++(ds.take 1++(if ds.drop 1=[]then []else l.dc++ds.drop 1))else [])=_;rw[aM rfl,aL hd,bE]
theorem amZ(x n:Nat):yL (aoK x n).1.2.1 (aoK x n).1.2.2=true:=by
 unfold aoK;split
 ·rfl
 unfold bkP;split
 ·exact acJ x
 unfold boG;have hd:=qO (acJ x);exact ajW (by split;exact ahT (hd.take _);exact hd.take _)
theorem bnX(neg:Bool)(ds:List UInt8)(e:Int):(mkN neg ds e).1.2.1.length≤ds.length:=by
 have h:(abZ ds).length≤ds.length:=bK (adL _ _) (alX _ _);unfold mkN;split
 ·simp
 split
 ·exact h
 simp
theorem avN(x n:Nat):(aoK x n).1.2.1.length≤n+1:=by
 unfold aoK;split
 ·simp
 unfold bkP;split
 ·rename_i h;exact Nat.le_succ_of_le h
 unfold boG;refine bK (bnX _ _ _) ?_;split
 ·refine bK (ajX _) ?_;rw[aU];omega
 rw[aU];omega
theorem aiE(l:Loc)(hk:l.ok)(sz:AV)(x:Nat)(hx:x<18446744073709551616):Fn 37 [.int .u64 (x:Int),pL l sz] (.str (bfQ l (aoK x 15))):=by
 intro H;have hsr:=amZ x 15;have hsl:=avN x 15;generalize hs:aoK x 15=s at *;obtain⟨⟨neg,ds,e⟩,er⟩:=s
 dsimp only at hsr hsl
 have hml:=zT;have hrl:=yX hsr;have hdd:=qO hsr;have hpd:=qW hsr;have hwl:=baN (l:=l) (neg:=neg) (ds:=ds) (p:=(ds.length:Int)+e) aA hk;have hkk:=hk;obtain⟨hk1,hk2,hk3,hk4,hk5⟩:=hkk;have hel:(dec (awU ((ds.length:Int)+e))).length≤10:=(aeR aC).2 (by unfold awU;split<;>omega);have hmn:(arN l neg ds).length≤200:=by
  unfold arN;have a1:(if neg=true then l.minus else []).length≤10:=by split<;>first|omega|(simp;done)
  have a2:(if(1:Int)<(ds.length:Int)then l.dc++ds.drop 1 else []).length≤110:=by split<;>simp only[aQ,bD,aY]<;>omega
  simp only[aQ,aU];omega
 have hzl:(if(dec (awU ((ds.length:Int)+e))).length<2 then([48]:List UInt8)else []).length≤1:=by split<;>simp
 refine .of_body func37 rfl ntmps37 results37 rfl ?_;iterate 9 refine AX ?_
 refine .cl rfl call87 (.cons (tm rfl) (.cons zG (.cons zG .nil))) (axG x hx 15 aC aC _) ?_;rw[hs];unfold dT
 dsimp only
 iterate 3 refine AX ?_
 refine .al zr61 (λb5 hb5=>?_);iterate 4 refine AX ?_
 refine .frz (t:=5) rfl (hb5) ?_;iterate 7 refine AX ?_
 refine .cx rfl (λhc16=>?_) (λhc16=>?_)
 ·iterate 8 refine AX ?_
  refine⟨?_,rfl⟩;unfold bfQ
  dsimp only
  rw[aM (show er≠0 by simpa using hc16)];rfl
 have her:er=0:=by simpa using hc16
 subst her;iterate 5 refine AX ?_
 refine .cl rfl C88 (evs1 rfl) (abU neg ds e hdd _) ?_;rw[hpd];iterate 4 refine AX ?_
 refine .seqTo 29 (.bool (decide (ds=[])||(decide (-4≤((ds.length:Int)+e))&&decide (((ds.length:Int)+e)≤15)))) [3,4,5,7] ?_ ?_
 ·refine AX ?_;refine .p rfl (zA U61 rfl Z9 (tm rfl)) ?_;iterate 3 refine AX ?_
  refine zB (t:=22) rfl (λhg22=>?_) (λhg22=>?_)
  ·have hh22:=hg22;try simp only[aV]at hh22
   iterate 8 refine AX ?_
   exact⟨rfl,zP rfl (by(rw[show decide (ds=[])=_ from hg22];rfl)) sX,rfl⟩
  have hh22:=hg22;try simp only[aT]at hh22
  iterate 3 refine AX ?_
  refine zB (t:=25) rfl (λhg25=>?_) (λhg25=>?_)
  ·have hh25:=hg25;try simp only[aV]at hh25
   iterate 5 refine AX ?_
   exact⟨rfl,zP rfl (by(rw[show decide (ds=[])=_ from hg22,show decide (-4≤((ds.length:Int)+e))=_ from hg25];rfl)) sX,rfl⟩
  have hh25:=hg25;try simp only[aT,Int.not_le]at hh25
  iterate 5 refine AX ?_
  exact⟨rfl,zP rfl (by(rw[show decide (ds=[])=_ from hg22,show decide (-4≤((ds.length:Int)+e))=_ from hg25];rfl)) sX,rfl⟩
 refine .sub [(29,_),(3,_),(4,_),(5,_),(7,_)] sX ?_;refine .cx rfl (λhc29=>?_) (λhc29=>?_)
 ·simp only[Bool.or_eq_true,bB,aV]at hc29;iterate 4 refine AX ?_
  refine .cl rfl call89 (.cons (tm rfl) (.cons (tm rfl) (.cons zY .nil))) (amG l hk sz neg ds e hsr _) ?_;iterate 6 refine AX ?_
  refine⟨?_,rfl⟩;unfold bfQ
  dsimp only
  rw[aL (show¬((0:Int)≠0) by simp),aM hc29];rfl
 simp only[eC,dB,aT]at hc29;have hdn:ds≠[]:=hc29.1;have hdp:=cG.2 hdn;have hr1:yL ds (1-(ds.length:Int))=true:=by
  have h:=hsr;rw[aqW hdn]at h ⊢;unfold bbX at h ⊢;simp only[bB,aV]at h ⊢;refine⟨⟨⟨⟨⟨h.1.1.1.1.1,by omega⟩,by omega⟩,h.1.1.2⟩,h.1.2⟩,h.2⟩
 iterate 5 refine AX ?_
 refine .p rfl (zA U61 rfl Z4 (tm rfl)) ?_;refine AX ?_;refine .p rfl (zA U61 rfl Z9 (tm rfl)) ?_;refine AX ?_;refine .p rfl (zA U61 rfl Z9 (tm rfl)) ?_;iterate 3 refine AX ?_
 refine .p rfl (qN zr61 pl61 (.cons (tm rfl) (.inl rfl) (.cons (tm rfl) (.inl rfl) (.cons (tm rfl) (.inl rfl) .nil))) rfl) (.cl rfl call89 (.cons (tm rfl) (.cons (tm rfl) (.cons zY .nil))) (amG l hk sz neg ds (1-(ds.length:Int)) hr1 _) ?_);rw[show(ds.length:Int)+(1-(ds.length:Int))=1 by omega,baM hdn aA];refine .p rfl (zU (tm rfl) (zM rfl) (by rw[zT];simp only[aW,aY];omega)) ?_;iterate 10 refine AX ?_
 refine .cl rfl C90 (evs1 rfl) (itoaZ _ (awU ((ds.length:Int)+e)) (by unfold awU;simp only[asQ];split<;>split<;>omega) (by unfold awU;split<;>omega) _) ?_;iterate 3 refine AX ?_
 refine .seqToL [(8,.str (arN l neg ds++[69]++[if((ds.length:Int)+e)<1 then 45 else 43]))] [4,9] ?_ ?_
 ·iterate 6 refine AX ?_
  refine .cx rfl (λhc52=>?_) (λhc52=>?_)
  ·iterate 2 refine AX ?_
   refine .p rfl (zU (tm rfl) (zM rfl) (by rw[zT];simp only[aQ,aW,aY];omega)) ?_;iterate 2 refine AX ?_
   exact⟨rfl,(yD rfl (by(rw[aM aB];done)) sX),rfl⟩
  iterate 2 refine AX ?_
  refine .p rfl (zU (tm rfl) (zM rfl) (by rw[zT];simp only[aQ,aW,aY];omega)) ?_;iterate 2 refine AX ?_
  exact⟨rfl,(yD rfl (by(rw[aI];done)) sX),rfl⟩
 refine .sub [(8,_),(4,_),(9,_)] sX ?_;refine .seqToL [(8,.str (arN l neg ds++[69]++[if((ds.length:Int)+e)<1 then 45 else 43]++(if(dec (awU ((ds.length:Int)+e))).length<2 then([48]:List UInt8)else [])))] [4,9] ?_ ?_
 ·iterate 7 refine AX ?_
  refine .cx rfl (λhc59=>?_) (λhc59=>?_)
  ·iterate 2 refine AX ?_
   refine .p rfl (zU (tm rfl) (zM rfl) (by rw[zT];simp only[aQ,aW,aY];omega)) ?_;iterate 2 refine AX ?_
   exact⟨rfl,(yD rfl (by(rw[aM (show(dec (awU ((ds.length:Int)+e))).length<2 by omega)];done)) sX),rfl⟩
  refine AX ?_;exact⟨rfl,(yD rfl (by(rw[aL (show¬(dec (awU ((ds.length:Int)+e))).length<2 by omega),bT];done)) sX),rfl⟩
 refine .sub [(8,_),(4,_),(9,_)] sX ?_;iterate 4 refine AX ?_
 refine .p rfl (zU (tm rfl) (tm rfl) (by rw[zT];simp only[aQ,aW,aY];omega)) ?_;iterate 5 refine AX ?_
 refine⟨?_,rfl⟩;unfold bfQ
 dsimp only
 rw[aL (show¬((0:Int)≠0) by simp),aL (show¬(ds=[]∨(-4≤((ds.length:Int)+e)∧((ds.length:Int)+e)≤15)) by rintro(q|q);exact hdn q;omega)];rfl
end
end Go.Proofs.YteedncdcbgplfaaGreatDoor
