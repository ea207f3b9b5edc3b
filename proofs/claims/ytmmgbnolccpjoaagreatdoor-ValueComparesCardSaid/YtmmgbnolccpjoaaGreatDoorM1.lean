import Derived.Test.YtmmgbnolccpjoaaGreatDoorA1
import Derived.Test.YtmmgbnolccpjoaaGreatDoorB1
set_option maxHeartbeats 1000000
namespace Go.Proofs.YtmmgbnolccpjoaaGreatDoor
open Go.Proofs.Tryz
open Go Go.RowKit
variable{a n x:Nat}
section
set_option maxRecDepth 100000
theorem zr161:ZR 161 [.bool false,.slice 1 [] .full]:=ZRi zeroValue161
theorem pl161:PL 161 [(0,1),(1,1)]:=PLi U161
theorem bnQ(h:n<BIG):(zE n).length≤10000:=aZ (yI h) aC
theorem acK(h:n<BIG):(zE n).length≤100000:=aZ (yI h) aC
theorem bxP(h:n<BIG):(zE n).length≤50000:=aZ (yI h) aC
theorem bPlus(n m:Nat)(hn:n<BIG)(hm:m<BIG):Fn 149 [qL n,qL m] (qL (n+m)):=by
 intro H;have h:=atT (zE n) .shared (zF n) (acK hn) (zE m) .shared (zF m) (acK hm) H;rw[zG,zG]at h;exact h
theorem bTimes(n m:Nat)(hn:n<BIG)(hm:m<BIG):Fn 83 [qL n,qL m] (qL (n*m)):=by
 intro H;have h:=abN (zE n) .shared (zF n) (acK hn) (zE m) .shared (zF m) (acK hm) H;rw[zG,zG]at h;exact h
theorem bCmp(n m:Nat)(hn:n<BIG)(hm:m<BIG):Fn 155 [qL n,qL m] (.int .i64 (arE n m)):=by
 intro H;have h:=apG (zE n) .shared (zF n) (acK hn) (zE m) .shared (zF m) (acK hm) H;rw[zG,zG]at h;exact h
theorem bLess(n m:Nat)(hn:n<BIG)(hm:m<BIG)(hle:m≤n):Fn 156 [qL n,qL m] (qL (n-m)):=by
 intro H;have h:=atU (zE n) .shared (zF n) (acK hn) (zE m) .shared (zF m) (acK hm) (by rw[zG,zG];exact hle) H;rw[zG,zG]at h;exact h
theorem bParts(n m:Nat)(hn:n<BIG)(hm:m<BIG)(h0:0<m):Fn 86 [qL n,qL m] (.tuple [qL (n/m),qL (n%m)]):=by
 intro H;have h:=akK (zE n) .shared (zF n) (acK hn) (zE m) .shared (zF m) (bxP hm) (by rw[zG];exact h0) H;rw[zG,zG]at h;exact h
theorem bUp(n k:Nat)(q:Int)(hq:q=(k:Int))(hk:k≤100000)(hn:n<BIG)(hB:n*2^k<BIG):Fn 87 [qL n,.int .i64 q] (qL (n*2^k)):=by
 intro H;have h:=akG (zE n) .shared (zF n) (bnQ hn) k hk q hq (by rw[zG];exact hB) H;rw[zG]at h;exact h
theorem bRound(neg:Bool)(n:Nat)(hn:n<BIG)(e:Int)(he: -10000≤e∧e≤1000000)(more:Bool):Fn 82 [.bool neg,qL n,.int .i64 e,.bool more] (.int .u64 ((zV neg n e more:Nat):Int)):=by
 intro H;have h:=ahF neg (zE n) .shared (zF n) (bnQ hn) e he more H;rw[zG]at h;exact h
def EXB:Nat:=4294967296^100
theorem bcM:EXB+EXB<BIG∧EXB<BIG:=⟨by decide+kernel,by decide+kernel⟩
theorem bgA{x:Nat}:exN x<EXB:=by
 have h1:=qD x;have h2:=(yM x).2;unfold exN;refine bM ((Nat.mul_lt_mul_right (Nat.two_pow_pos _)).2 h1) ?_;refine aZ (bV 9007199254740992 (aW aC (show(yG x+1074).toNat≤2050 by omega))) aE
theorem cdP(hx:x<18446744073709551616)(h:¬zK x=4):(x+9223372036854775808)%18446744073709551616=ajS x:=by
 unfold ajS;rw[aL h];split<;>omega
def sgA(neg:Bool)(n:Nat):AV:=.agg [.bool neg,qL n]
theorem amW:9007199254740992<BIG:=by decide+kernel
theorem aoA{n:Nat}:((zE n).length:Int)=0↔n=0:=by
 constructor
 ·intro h;have h2:zE n=[]:=eH aA;rw[←zG n,h2];rfl
 rintro rfl;rfl
theorem axS(a:Nat)(ha:a<18446744073709551616):Fn 60 [.int .u64 (a:Int)] (.int .u64 ((ajS a:Nat):Int)):=by
 intro H;refine .of_body func60 rfl ntmps60 results60 rfl ?_;iterate 9 refine AM ?_
 refine .cl rfl C25 (evs1 rfl) (qA _ aB _) ?_;iterate 3 refine AX ?_
 refine .cx rfl (λhc5=>?_) (λhc5=>?_)
 ·iterate 8 refine AM ?_
  refine⟨?_,rfl⟩;unfold ajS;rw[aJ];rfl
 iterate 5 refine AX ?_
 refine .p rfl (ajE (tm rfl) (zR 9223372036854775808)) ?_;iterate 5 refine AX ?_
 refine⟨?_,rfl⟩;rw[←cdP ha aA];rfl
theorem amE(neg:Bool):Fn 138 [.bool neg] (.int .u64 ((qG neg:Nat):Int)):=by
 intro H;refine .of_body func138 rfl ntmps138 results138 rfl ?_;iterate 11 refine AM ?_
 refine .cx rfl (λhc3=>?_) (λhc3=>?_)
 ·iterate 8 refine AM ?_
  refine⟨?_,rfl⟩;unfold qG;first|(rw[aN aB];rfl)|(rw[aL aH];rfl)
 iterate 9 refine AM ?_
 refine⟨?_,rfl⟩;unfold qG;first|(rw[aN aB];rfl)|(rw[aL aH];rfl)
theorem aqU(a:Nat)(ha:a<18446744073709551616)(hk:zK a≤2):Fn 140 [.int .u64 (a:Int)] (sgA (aeK a) (exN a)):=by
 intro H;have hpe:=yM a;have hpm:=qD a;have hfe:=(cdS hk).1;have hex:=@bgA a;have hBh:=bcM.2;refine .of_body func140 rfl ntmps140 results140 rfl ?_;iterate 2 refine AX ?_
 refine .al zr161 (λb2 hb2=>?_);iterate 5 refine AX ?_
 refine .cl rfl C129 (evs1 rfl) (abO _ aB _) ?_;iterate 13 refine AX ?_
 refine .cl rfl C130 (evs1 rfl) (adV _ aA _) ?_;iterate 2 refine AX ?_
 refine .cl rfl C87 (evs2 rfl rfl) (bUp (yF a) (yG a+1074).toNat _ aA aA (cL (bM hpm aE) hBh) (cL hex hBh) _) (.p rfl (zX zr161 pl161 (.cons (tm rfl) (.inl rfl) (.cons (tm rfl) (.inl rfl) .nil)) rfl) ?_);iterate 3 refine AX ?_
 refine .frz (t:=2) rfl (hb2) ?_;iterate 2 refine AX ?_
 exact⟨rfl,rfl⟩
theorem beD(na:Bool)(x:Nat)(nb:Bool)(y:Nat)(hx:x<BIG)(hy:y<BIG)(H:Heap):ACall prog 139 [sgA na x,sgA nb y] H (λz H'=>z=sgA (amL na x nb y).1 (amL na x nb y).2∧H'=H):=by
 refine .of_body func139 rfl ntmps139 results139 rfl ?_;iterate 4 refine AX ?_
 refine .al zr161 (λb4 hb4=>?_);iterate 5 refine AX ?_
 refine .p rfl (zA U161 rfl Z4 (tm rfl)) ?_;refine AX ?_;refine .p rfl (zA U161 rfl Z4 (tm rfl)) ?_;refine AX ?_;refine .p rfl (beM U4 (tm rfl) (tm rfl)) ?_;iterate 2 refine AX ?_
 refine .cx rfl (λhc9=>?_) (λhc9=>?_)
 ·refine AX ?_;refine .draw [(0,true),(1,true),(2,true),(3,true),(4,true),(5,true),(6,true),(7,true),(8,false)] rfl aE ?_;refine .p rfl rfl (zA U161 rfl Z4 (tm rfl)) ?_;refine AX ?_;refine .p rfl rfl (zA U161 rfl Z107 (tm rfl)) ?_;refine AX ?_;refine .p rfl rfl (zA U161 rfl Z107 (tm rfl)) ?_;refine AX ?_;refine .f rfl rfl (λ_=>zB call149 (evs2 rfl rfl) (bPlus _ _ hx hy _)) ?_;refine .p rfl rfl (zX zr161 pl161 (.cons (tm rfl) (.inl rfl) (.cons (tm rfl) (.inl rfl) .nil)) rfl) (.s0 rfl (zN Z161 (tm rfl) (tm rfl) rfl rfl (.inr ⟨_,rfl⟩) (oS _ _ _) (lB rfl)) ?_);rintro _ _ ⟨rfl,hH⟩;obtain rfl:=hH.symm;try first|rw[sS]|rw[sU aB]
  iterate 2 refine AX ?_
  refine .frz (t:=4) rfl (hb4) ?_;iterate 3 refine AX ?_
  refine⟨?_,rfl⟩;unfold amL;rw[aN aH];rfl
 iterate 5 refine AX ?_
 refine .p rfl (zA U161 rfl Z107 (tm rfl)) ?_;refine AX ?_;refine .p rfl (zA U161 rfl Z107 (tm rfl)) ?_;refine AX ?_;refine .cl rfl C155 (evs2 rfl rfl) (bCmp _ _ hx hy _) ?_;iterate 3 refine AX ?_
 refine .cx rfl (λhc23=>?_) (λhc23=>?_)
 ·refine AX ?_;refine .draw [(0,true),(1,true),(2,true),(3,true),(4,true),(5,true),(6,true),(7,true),(8,false)] rfl aE ?_;refine .p rfl rfl (zA U161 rfl Z4 (tm rfl)) ?_;refine AX ?_;refine .p rfl rfl (zA U161 rfl Z107 (tm rfl)) ?_;refine AX ?_;refine .p rfl rfl (zA U161 rfl Z107 (tm rfl)) ?_;refine AX ?_;refine .f rfl rfl (λ_=>zB call156 (evs2 rfl rfl) (bLess _ _ hx hy (by have:=apW (a:=x) (b:=y);omega) _)) ?_;refine .p rfl rfl (zX zr161 pl161 (.cons (tm rfl) (.inl rfl) (.cons (tm rfl) (.inl rfl) .nil)) rfl) (.s0 rfl (zN Z161 (tm rfl) (tm rfl) rfl rfl (.inr ⟨_,rfl⟩) (oS _ _ _) (lB rfl)) ?_);rintro _ _ ⟨rfl,hH⟩;obtain rfl:=hH.symm;try first|rw[sS]|rw[sU aB]
  iterate 2 refine AX ?_
  refine .frz (t:=4) rfl (hb4) ?_;iterate 3 refine AX ?_
  refine⟨?_,rfl⟩;unfold amL;rw[aL aH,aN (by have:=apW (a:=x) (b:=y);omega)];rfl
 iterate 3 refine AX ?_
 refine .draw [(0,true),(1,true),(2,true),(3,true),(4,true),(5,true),(6,true),(7,true),(8,false)] rfl aE ?_;refine .p rfl rfl (zA U161 rfl Z4 (tm rfl)) ?_;refine AX ?_;refine .p rfl rfl (zA U161 rfl Z107 (tm rfl)) ?_;refine AX ?_;refine .p rfl rfl (zA U161 rfl Z107 (tm rfl)) ?_;refine AX ?_;refine .f rfl rfl (λ_=>zB call156 (evs2 rfl rfl) (bLess _ _ hy hx (by have:=apW (a:=x) (b:=y);omega) _)) ?_;refine .p rfl rfl (zX zr161 pl161 (.cons (tm rfl) (.inl rfl) (.cons (tm rfl) (.inl rfl) .nil)) rfl) (.s0 rfl (zN Z161 (tm rfl) (tm rfl) rfl rfl (.inr ⟨_,rfl⟩) (oS _ _ _) (lB rfl)) ?_);rintro _ _ ⟨rfl,hH⟩;obtain rfl:=hH.symm;try first|rw[sS]|rw[sU aB]
 iterate 2 refine AX ?_
 refine .frz (t:=4) rfl (hb4) ?_;iterate 2 refine AX ?_
 refine⟨?_,rfl⟩;unfold amL;rw[aL aH,aL (by have:=apW (a:=x) (b:=y);omega)];rfl
theorem ciM{na nb:Bool}{y:Nat}(hx:x<EXB)(hy:y<EXB):(amL na x nb y).2<BIG:=by
 have:(amL na x nb y).2≤x+y:=by unfold amL;split<;>(try split)<;>(simp only;omega)
 have h2:=bcM.1;omega
theorem axT(a b:Nat)(ha:a<18446744073709551616)(hb:b<18446744073709551616):Fn 72 [.int .u64 (a:Int),.int .u64 (b:Int)] (.int .u64 ((afB a b:Nat):Int)):=by
 intro H;have hka:=aaF a;have hkb:=aaF b;have hBh:=bcM.2;have hxa:=cL (@bgA a) hBh;have hxb:=cL (@bgA b) hBh;have hps:=ciM (na:=aeK a) (nb:=aeK b) (@bgA a) (@bgA b);clear hBh;refine .of_body func72 rfl ntmps72 results72 rfl ?_;iterate 8 refine AM ?_
 refine .cl rfl C25 (evs1 rfl) (qA _ aB _) ?_;iterate 6 refine AX ?_
 refine .cl rfl C25 (evs1 rfl) (qA _ aB _) ?_;iterate 5 refine AX ?_
 refine .sB 12 (decide (zK a=4∨zK b=4)) [0,1,4,5,6] ?_
 ·refine .sub [(12,_),(0,_),(1,_),(4,_),(5,_),(6,_)] sX ?_;refine .cx rfl (λhc12=>?_) (λhc12=>?_)
  ·iterate 9 refine AM ?_
   refine⟨?_,rfl⟩;unfold afB;rw[aN hc12];rfl
  refine .sB 19 (decide (zK a=3∧zK b=3∧a≠b)) [0,1,4,5,6] ?_
  ·refine .sub [(19,_),(0,_),(1,_),(4,_),(5,_),(6,_)] sX ?_;refine .cx rfl (λhc19=>?_) (λhc19=>?_)
   ·iterate 9 refine AM ?_
    refine⟨?_,rfl⟩;unfold afB;rw[aL hc12,aN hc19];rfl
   iterate 7 refine AX ?_
   refine .cx rfl (λhc31=>?_) (λhc31=>?_)
   ·iterate 10 refine AX ?_
    refine⟨?_,rfl⟩;unfold afB;rw[aL hc12,aL hc19,aJ];rfl
   iterate 7 refine AX ?_
   refine .cx rfl (λhc35=>?_) (λhc35=>?_)
   ·iterate 10 refine AX ?_
    refine⟨?_,rfl⟩;unfold afB;rw[aL hc12,aL hc19,aI,aJ];rfl
   refine .sB 39 (decide (zK a=0∧zK b=0)) [0,1,4] ?_
   ·refine .sub [(39,_),(0,_),(1,_),(4,_)] sX ?_;refine .cx rfl (λhc39=>?_) (λhc39=>?_)
    ·iterate 3 refine AX ?_
     refine .cl rfl C124 (evs1 rfl) (adB _ aB _) ?_;refine AX ?_;refine zC (t:=48) rfl (λhg48=>?_) (λhg48=>?_)
     ·have hh48:=hg48;try simp only[aK]at hh48
      refine AX ?_;refine .gs rfl rfl rfl aB (zB C124 (evs1 rfl) (adB _ aB _)) ?_;rintro _ _ ⟨rfl,hH⟩;obtain rfl:=hH.symm;refine AX ?_;refine .cl rfl call138 (evs1 rfl) (amE _ _) ?_;iterate 7 refine AX ?_
      refine⟨?_,rfl⟩;unfold afB;rw[aL hc12,aL hc19,aI,aI,aN hc39];first|(rw[hg48];rfl)|rfl
     have hh48:=hg48;try simp only[aK]at hh48
     iterate 3 refine AX ?_
     refine .cl rfl call138 (evs1 rfl) (amE _ _) ?_;iterate 7 refine AX ?_
     refine⟨?_,rfl⟩;unfold afB;rw[aL hc12,aL hc19,aI,aI,aN hc39];first|(rw[hg48];rfl)|rfl
    iterate 6 refine AX ?_
    refine .cl rfl call140 (evs1 rfl) (aqU _ aB aA _) ?_;refine AX ?_;refine .cl rfl call140 (evs1 rfl) (aqU _ aB aA _) (.cl rfl call139 (evs2 rfl rfl) (beD _ _ _ _ aB aB _) ?_);refine .al zr161 (λb7 hb7=>?_);iterate 3 refine AX ?_
    refine .frz (t:=7) rfl (hb7) ?_;iterate 3 refine AX ?_
    refine .p rfl (zA U161 rfl Z107 (tm rfl)) ?_;iterate 5 refine AX ?_
    refine .cx rfl (λhc61=>?_) (λhc61=>?_)
    ·iterate 8 refine AM ?_
     refine⟨?_,rfl⟩;unfold afB;rw[aL hc12,aL hc19,aI,aI,aL hc39,aN (aoA.1 hc61)];rfl
    iterate 4 refine AX ?_
    refine .p rfl (zA U161 rfl Z4 (tm rfl)) ?_;refine AX ?_;refine .p rfl (zA U161 rfl Z107 (tm rfl)) ?_;refine AX ?_;refine .cl rfl C82 (.cons (tm rfl) (.cons (tm rfl) (.cons zH (.cons yK .nil)))) (bRound _ _ hps (-1074) aC false _) ?_;iterate 5 refine AX ?_
    refine⟨?_,rfl⟩;unfold afB;rw[aL hc12,aL hc19,aI,aI,aL hc39,aL (λq=>hc61 (aoA.2 q))];rfl
theorem bqH(a b:Nat)(ha:a<18446744073709551616)(hb:b<18446744073709551616):Fn 73 [.int .u64 (a:Int),.int .u64 (b:Int)] (.int .u64 ((afB a (ajS b):Nat):Int)):=by
 intro H;refine .of_body func73 rfl ntmps73 results73 rfl ?_;iterate 9 refine AM ?_
 refine .cl rfl call60 (evs1 rfl) (axS _ aB _) (.cl rfl call72 (evs2 rfl rfl) (axT _ _ aB (amQ aB) _) ?_);iterate 5 refine AX ?_
 exact⟨rfl,rfl⟩
theorem bnL{b:Nat}(ha:a<18446744073709551616)(hb:b<18446744073709551616):decide (aeK a≠aeK b)=aeH a b:=(cjD ha hb).symm
theorem buS(neg:Bool):qG neg+9218868437227405312<18446744073709551616∧qG neg≤9223372036854775808:=by cases neg<;>decide
theorem cjC{y:Nat}(hx:x<9007199254740992)(hy:y<9007199254740992):x*y<BIG:=aU (cS (cT hx) (cT hy)) aE
theorem apE(a b:Nat)(ha:a<18446744073709551616)(hb:b<18446744073709551616):Fn 74 [.int .u64 (a:Int),.int .u64 (b:Int)] (.int .u64 ((baA a b:Nat):Int)):=by
 intro H;have hka:=aaF a;have hkb:=aaF b;have hpa:=qD a;have hpb:=qD b;have hea:=yM a;have heb:=yM b;have hsi:=buS (aeH a b);have hmB:=cjC hpa hpb;have hxa:=cL hpa amW;have hxb:=cL hpb amW;refine .of_body func74 rfl ntmps74 results74 rfl ?_;iterate 8 refine AM ?_
 refine .cl rfl C25 (evs1 rfl) (qA _ aB _) ?_;iterate 6 refine AX ?_
 refine .cl rfl C25 (evs1 rfl) (qA _ aB _) ?_;iterate 6 refine AX ?_
 refine .cl rfl C124 (evs1 rfl) (adB _ aB _) ?_;refine AX ?_;refine .cl rfl C124 (evs1 rfl) (adB _ aB _) ?_;refine .p rfl (.as (b:=.bool (aeH a b)) (by rw[←bnL ha hb];cases aeK a<;>cases aeK b<;>rfl) (beJ U4 (tm rfl) (tm rfl))) ?_;iterate 5 refine AX ?_
 refine .sB 23 (decide (zK a=4∨zK b=4∨(zK a=3∧zK b=0)∨(zK a=0∧zK b=3))) [0,1,4,5,6,7] ?_
 ·refine .sub [(23,_),(0,_),(1,_),(4,_),(5,_),(6,_),(7,_)] sX ?_;refine .cx rfl (λhc23=>?_) (λhc23=>?_)
  ·iterate 9 refine AM ?_
   refine⟨?_,rfl⟩;unfold baA;rw[aN hc23];rfl
  refine .sB 46 (decide (zK a=3∨zK b=3)) [0,1,4,7] ?_
  ·refine .sub [(46,_),(0,_),(1,_),(4,_),(7,_)] sX ?_;refine .cx rfl (λhc46=>?_) (λhc46=>?_)
   ·iterate 3 refine AX ?_
    refine .cl rfl call138 (evs1 rfl) (amE _ _) ?_;iterate 8 refine AM ?_
    refine⟨?_,rfl⟩;unfold baA;rw[aL hc23,aN hc46];rfl
   iterate 6 refine AX ?_
   refine .cl rfl C129 (evs1 rfl) (abO _ aB _) ?_;iterate 12 refine AX ?_
   refine .cl rfl C129 (evs1 rfl) (abO _ aB _) ?_;iterate 13 refine AX ?_
   refine .cl rfl C130 (evs1 rfl) (adV _ aA _) ?_;refine AX ?_;refine .cl rfl C130 (evs1 rfl) (adV _ aA _) (.cl rfl C83 (evs2 rfl rfl) (bTimes _ _ hxa hxb _) ?_);iterate 3 refine AX ?_
   refine .cl rfl C82 (.cons (tm rfl) (.cons (tm rfl) (.cons (tm rfl) (.cons yK .nil)))) (bRound _ _ hmB _ aA false _) ?_;iterate 5 refine AX ?_
   refine⟨?_,rfl⟩;unfold baA;rw[aL hc23,aL hc46];rfl
end
section
open Go Go.RowKit
set_option maxRecDepth 100000
theorem ahI(a:Nat)(ha:a<18446744073709551616):Fn 125 [.int .u64 (a:Int)] (.bool (decide (zK a=4))):=by
 intro H;refine .of_body func125 rfl ntmps125 results125 rfl ?_;iterate 8 refine AX ?_
 refine .cl rfl C25 (evs1 rfl) (qA _ aB _) ?_;iterate 6 refine AX ?_
 refine⟨?_,rfl⟩;exact congrArg AV.bool (aT.2 aA)
theorem acH(a:Nat)(ha:a<18446744073709551616):Fn 126 [.int .u64 (a:Int)] (.bool (decide (zK a=3))):=by
 intro H;refine .of_body func126 rfl ntmps126 results126 rfl ?_;iterate 8 refine AX ?_
 refine .cl rfl C25 (evs1 rfl) (qA _ aB _) ?_;iterate 6 refine AX ?_
 refine⟨?_,rfl⟩;exact congrArg AV.bool (aT.2 aA)
theorem acG(a:Nat)(ha:a<18446744073709551616):Fn 127 [.int .u64 (a:Int)] (.bool (decide (zK a=0))):=by
 intro H;refine .of_body func127 rfl ntmps127 results127 rfl ?_;iterate 8 refine AX ?_
 refine .cl rfl C25 (evs1 rfl) (qA _ aB _) ?_;iterate 6 refine AX ?_
 refine⟨?_,rfl⟩;exact congrArg AV.bool (aT.2 aA)
theorem aqW(neg:Bool)(x:Nat)(hx:x≤9218868437227405312):Fn 128 [.bool neg,.int .u64 (x:Int)] (.int .u64 ((qG neg+x:Nat):Int)):=by
 intro H;refine .of_body func128 rfl ntmps128 results128 rfl ?_;iterate 11 refine AM ?_
 refine .cx rfl (λhc5=>?_) (λhc5=>?_)
 ·iterate 10 refine AM ?_
  refine⟨?_,rfl⟩;rw[show qG neg=9223372036854775808 from aN aB,dS];rfl
 iterate 10 refine AX ?_
 refine⟨?_,rfl⟩;rw[show qG neg=0 from aL aH,bZ];rfl
theorem coO:∃j,j=4000∧9007199254740992*2^j≤BIG:=⟨_,rfl,by decide+kernel⟩
theorem awW{k:Nat}(hx:x<9007199254740992)(hk:k≤4000):x*2^k<BIG:=by
 refine bM ((Nat.mul_lt_mul_right (Nat.two_pow_pos _)).2 hx) (aZ (bV 9007199254740992 (aW aC hk)) ?_);obtain⟨j,hj,e⟩:=coO;rw[←hj];exact e
theorem bjU:(0:Int)<((zE n).length:Int)↔n≠0:=by
 have:=@aoA n;omega
theorem apF(a b:Nat)(ha:a<18446744073709551616)(hb:b<18446744073709551616):Fn 59 [.int .u64 (a:Int),.int .u64 (b:Int)] (.int .u64 ((atP a b:Nat):Int)):=by
 intro H;have hka:=aaF a;have hkb:=aaF b;have hpa:=qD a;have hpb:=qD b;have hea:=yM a;have heb:=yM b;have hxa:=cL hpa amW;have hxb:=cL hpb amW;have huB:=awW (k:=128) hpa aC;refine .of_body func59 rfl ntmps59 results59 rfl ?_;iterate 8 refine AM ?_
 refine .cl rfl C124 (evs1 rfl) (adB _ aB _) ?_;refine AX ?_;refine .cl rfl C124 (evs1 rfl) (adB _ aB _) ?_;refine .p rfl (.as (b:=.bool (aeH a b)) (by rw[←bnL ha hb];cases aeK a<;>cases aeK b<;>rfl) (beJ U4 (tm rfl) (tm rfl))) ?_;iterate 5 refine AX ?_
 refine .seqTo 19 (.bool (decide (aaT a b))) [0,1,4,5] ?_ ?_
 ·iterate 2 refine AX ?_
  refine .cl rfl C125 (evs1 rfl) (ahI _ aB _) ?_;refine AX ?_;refine zC (t:=22) rfl (λhg22=>?_) (λhg22=>?_)
  ·have hh22:=hg22;try simp only[aO]at hh22
   iterate 21 refine AX ?_
   exact⟨rfl,zL rfl (by(refine Eq.symm ?_;unfold aaT;exact aY aA)) sX,rfl⟩
  have hh22:=hg22;try simp only[aM]at hh22
  refine AX ?_;refine .gs rfl rfl rfl aB (zB C125 (evs1 rfl) (ahI _ aB _)) ?_;rintro _ _ ⟨rfl,hH⟩;obtain rfl:=hH.symm;iterate 2 refine AX ?_
  refine zC (t:=26) rfl (λhg26=>?_) (λhg26=>?_)
  ·have hh26:=hg26;try simp only[aO]at hh26
   iterate 17 refine AX ?_
   exact⟨rfl,zL rfl (by(refine Eq.symm ?_;unfold aaT;exact aY aA)) sX,rfl⟩
  have hh26:=hg26;try simp only[aM]at hh26
  refine AX ?_;refine .gs rfl rfl rfl aB (zB C126 (evs1 rfl) (acH _ aB _)) ?_;rintro _ _ ⟨rfl,hH⟩;obtain rfl:=hH.symm;refine AX ?_;refine zC (t:=29) rfl (λhg29=>?_) (λhg29=>?_)
  ·have hh29:=hg29;try simp only[aO]at hh29
   refine AX ?_;refine .gs rfl rfl rfl aB (zB C126 (evs1 rfl) (acH _ aB _)) ?_;rintro _ _ ⟨rfl,hH⟩;obtain rfl:=hH.symm;iterate 3 refine AX ?_
   refine zC (t:=34) rfl (λhg34=>?_) (λhg34=>?_)
   ·have hh34:=hg34;try simp only[aO]at hh34
    iterate 9 refine AX ?_
    exact⟨rfl,zL rfl (by(refine Eq.symm ?_;unfold aaT;exact aY aA)) sX,rfl⟩
   have hh34:=hg34;try simp only[aM]at hh34
   refine AX ?_;refine .gs rfl rfl rfl aB (zB C127 (evs1 rfl) (acG _ aB _)) ?_;rintro _ _ ⟨rfl,hH⟩;obtain rfl:=hH.symm;refine AX ?_;refine zC (t:=37) rfl (λhg37=>?_) (λhg37=>?_)
   ·have hh37:=hg37;try simp only[aO]at hh37
    refine AX ?_;refine .gs rfl rfl rfl aB (zB C127 (evs1 rfl) (acG _ aB _)) ?_;rintro _ _ ⟨rfl,hH⟩;obtain rfl:=hH.symm;iterate 4 refine AX ?_
    exact⟨rfl,zL rfl (by(refine Eq.symm ?_;unfold aaT;exact aT.2 aA)) sX,rfl⟩
   have hh37:=hg37;try simp only[aM]at hh37
   iterate 6 refine AX ?_
   exact⟨rfl,zL rfl (by(refine Eq.symm ?_;unfold aaT;exact bB aA)) sX,rfl⟩
  have hh29:=hg29;try simp only[aM]at hh29
  iterate 6 refine AX ?_
  refine .gs rfl rfl rfl aD (zB C127 (evs1 rfl) (acG _ aB _)) ?_;rintro _ _ ⟨rfl,hH⟩;obtain rfl:=hH.symm;refine AX ?_;refine zC (t:=37) rfl (λhg37=>?_) (λhg37=>?_)
  ·have hh37:=hg37;try simp only[aO]at hh37
   refine AX ?_;refine .gs rfl rfl rfl aB (zB C127 (evs1 rfl) (acG _ aB _)) ?_;rintro _ _ ⟨rfl,hH⟩;obtain rfl:=hH.symm;iterate 4 refine AX ?_
   exact⟨rfl,zL rfl (by(refine Eq.symm ?_;unfold aaT;exact aT.2 aA)) sX,rfl⟩
  have hh37:=hg37;try simp only[aM]at hh37
  iterate 6 refine AX ?_
  exact⟨rfl,zL rfl (by(refine Eq.symm ?_;unfold aaT;exact bB aA)) sX,rfl⟩
 refine .sub [(19,_),(0,_),(1,_),(4,_),(5,_)] sX ?_;refine .cx rfl (λhc19=>?_) (λhc19=>?_)
 ·iterate 9 refine AM ?_
  refine⟨?_,rfl⟩;unfold atP;rw[aN hc19];rfl
 have hdn:=hc19;unfold aaT at hc19;refine .seqTo 42 (.bool (decide (zK a=3∨zK b=0))) [0,1,4,5] ?_ ?_
 ·iterate 2 refine AX ?_
  refine .cl rfl C126 (evs1 rfl) (acH _ aB _) ?_;refine AX ?_;refine zC (t:=45) rfl (λhg45=>?_) (λhg45=>?_)
  ·have hh45:=hg45;try simp only[aO]at hh45
   iterate 5 refine AX ?_
   exact⟨rfl,zL rfl (by(refine Eq.symm ?_;exact aY aA)) sX,rfl⟩
  have hh45:=hg45;try simp only[aM]at hh45
  refine AX ?_;refine .gs rfl rfl rfl aB (zB C127 (evs1 rfl) (acG _ aB _)) ?_;rintro _ _ ⟨rfl,hH⟩;obtain rfl:=hH.symm;iterate 3 refine AX ?_
  exact⟨rfl,zL rfl (by(refine Eq.symm ?_;exact aT.2 aA)) sX,rfl⟩
 refine .sub [(42,_),(0,_),(1,_),(4,_),(5,_)] sX ?_;refine .cx rfl (λhc42=>?_) (λhc42=>?_)
 ·iterate 3 refine AX ?_
  refine .cl rfl call128 (.cons (tm rfl) (.cons (zR 9218868437227405312) .nil)) (aqW _ _ aC _) ?_;iterate 7 refine AX ?_
  refine⟨?_,rfl⟩;unfold atP;rw[aL hdn,aN hc42];rfl
 refine .seqTo 51 (.bool (decide (zK a=0∨zK b=3))) [0,1,4,5] ?_ ?_
 ·iterate 2 refine AX ?_
  refine .cl rfl C127 (evs1 rfl) (acG _ aB _) ?_;refine AX ?_;refine zC (t:=54) rfl (λhg54=>?_) (λhg54=>?_)
  ·have hh54:=hg54;try simp only[aO]at hh54
   iterate 5 refine AX ?_
   exact⟨rfl,zL rfl (by(refine Eq.symm ?_;exact aY aA)) sX,rfl⟩
  have hh54:=hg54;try simp only[aM]at hh54
  refine AX ?_;refine .gs rfl rfl rfl aB (zB C126 (evs1 rfl) (acH _ aB _)) ?_;rintro _ _ ⟨rfl,hH⟩;obtain rfl:=hH.symm;iterate 3 refine AX ?_
  exact⟨rfl,zL rfl (by(refine Eq.symm ?_;exact aT.2 aA)) sX,rfl⟩
 refine .sub [(51,_),(0,_),(1,_),(4,_),(5,_)] sX ?_;refine .cx rfl (λhc51=>?_) (λhc51=>?_)
 ·iterate 3 refine AX ?_
  refine .cl rfl call128 (.cons (tm rfl) (.cons (zR 0) .nil)) (aqW _ _ aC _) ?_;iterate 7 refine AX ?_
  refine⟨?_,rfl⟩;unfold atP;rw[aL hdn,aL hc42,aN hc51];rfl
 have hb0:0<yF b:=eI λq=>by have:=(bcQ (x:=b) aA).1 q;omega
 iterate 6 refine AX ?_
 refine .cl rfl C129 (evs1 rfl) (abO _ aB _) ?_;iterate 12 refine AX ?_
 refine .cl rfl C129 (evs1 rfl) (abO _ aB _) ?_;iterate 12 refine AX ?_
 refine .cl rfl C130 (evs1 rfl) (adV _ aA _) (.cl rfl C87 (.cons (tm rfl) (.cons zH .nil)) (bUp _ 128 128 rfl aC hxa huB _) ?_);refine AX ?_;refine .cl rfl C130 (evs1 rfl) (adV _ aA _) (.cl rfl C86 (evs2 rfl rfl) (bParts _ _ huB hxb hb0 _) ?_);iterate 17 refine AX ?_
 refine .p rfl (.as (b:=.bool (decide (yF a*2^128%yF b≠0))) (congrArg AV.bool (aT.2 bjU)) (afS (tm rfl) zH)) ?_;refine .cl rfl C82 (.cons (tm rfl) (evs3 rfl rfl rfl)) (bRound _ _ (aU (cY _ _) huB) _ aA _ _) ?_;iterate 5 refine AX ?_
 refine⟨?_,rfl⟩;unfold atP;rw[aL hdn,aL hc42,aL hc51];rfl
end
section
open Go Go.RowKit
section
variable{P:Program}{env:Env}{H H0:Heap}{dst:Option Tmp}{ty:TypeId}{pos:String}{af:Array Edge}{gd:Option (Nat×Bool)}
def SL(E:TypeId)(k:IntKind)(p:Option Addr)(n c:Nat)(zs:List Nat)(H0 H:Heap):Prop:=
 (c=0∧n=0∧zs=[]∧H=H0)∨(∃b,p=some ⟨b,0,none⟩∧H0.objs b=none∧zs.length=c∧n≤c∧c≤maxLen∧H=H0.set b (.box E (U k zs)))
theorem coL(k:IntKind)(ys:List Nat):(U k ys).all AV.one=true:=by
 rw[fM];intro v hv;obtain⟨z,_,hz⟩:=List.mem_map.1 hv;rw[←hz];rfl
theorem bdC{T T' E:TypeId}{x y:Operand}{k:IntKind}{p:Option Addr}{c:Nat}{zs ys:List Nat}{tl':Tail}{ti:TypeInfo}(hu:P.underlying T=some (.slice E))(hu':P.underlying T'=some (.slice E))
  (hs:∀w,(sizeOf E).run P w= .ok 1 w)(hti:∀w,(typeInfo E).run P w= .ok ti w)(hz:∀w,(zeroValue E).run P w= .ok (.int k 0) w)(hb0:ti.bytes≠0)
  (hx:Ev env x (.mslice p n c))(hsl:SL E k p n c zs H0 H)(hy:Ev env y (.slice 1 (U k ys) tl'))(hfit:(n+ys.length)*ti.bytes≤140737488355328)(hpos:0<ys.length):
  AStep P ⟨dst,.call {callee:=.builtin .append,args:= #[x,y],argTypes:= #[T,T']},ty,pos,af,gd⟩ env H
   (λr H'=>∃p' c' zs' H0',r= .mslice p' (n+ys.length) c'∧SL E k p' (n+ys.length) c' zs' H0' H'∧H0.le H0'∧zs'.take (n+ys.length)=zs.take n++ys):=by
 intro g q a w ka s;obtain⟨vx,hex,hvx⟩:=ev1 hx ka;obtain⟨vy,hey,hvy⟩:=ev1 hy ka;cases hvx
 obtain⟨us,hus,hlenY,hfirst⟩:=aeT (P:=P) hvy (alR k ys);rw[caB]at hus;rw[acL]at hlenY hfirst;have imm:∀w':World,w'.heap=w.heap→∀b k u,g.imm b k=some u→w'.cell? ⟨b,k,none⟩=some u:=λw' hw b k u hu=>by
  have:=s.imm b k u hu;unfold World.cell? at this ⊢;rw[hw];exact this
 have husz:us.size=ys.length:=by rw[←hus.1,acL]
 by_cases hc:n+ys.length≤c
 ·rcases hsl with⟨h1,h2,_,_⟩|⟨b,rfl,hb,hzl,hnc,hcm,rfl⟩
  ·omega
  obtain⟨vs,⟨fz,hw,hth⟩,hrel⟩:=s.box b E _ (oS _ _ _);have hsz:=hrel.1;rw[acL]at hsz;have hrun:=acR (P:=P) b n E fz us.toList 0 vs w hw hth aG (hus.oneCells (coL k ys));simp only[cB]at hrun;have hex2:(execOp a.eval ⟨dst,.call {callee:=.builtin .append,args:= #[x,y],argTypes:= #[T,T']},ty,pos,af,gd⟩).run P w= .ok (.value (.slice (some ⟨b,0,none⟩) (n+ys.length) c)) (w.setRow b (vs.toList.take n++us.toList++vs.toList.drop (n+us.toList.length)).toArray):=by
   simp only[yN,builtin,Builtin.append_];simp[hex,hey,underlying,hu,hu',hs,hlenY,hc,Addr.add_off];rw[hfirst w (imm w rfl)];simp only[Result.andThen_ok];rw[hrun];simp
  rw[hex2];have hst:Sat g ((H0.set b (.box E (U k zs))).set b (.box E (U k (zs.take n++ys++zs.drop (n+ys.length))))) (w.setRow b (vs.toList.take n++us.toList++vs.toList.drop (n+us.toList.length)).toArray):=by
   have e:U k (zs.take n++ys++zs.drop (n+ys.length))=putRow (U k zs) n (U k ys):=by
    unfold putRow;rw[boW,chB,apZ,apZ,acL]
   rw[e];refine s.turn (oS _ _ _) (λj hj=>setRow_other w b j _ hj) aF rfl rfl rfl ⟨_,⟨fz,setRow_heap w b vs _ E fz hw,?_⟩,hrel.putRow hus (by rw[acL,acL];omega)⟩;have e2:(vs.toList.take n++us.toList++vs.toList.drop (n+us.toList.length)).toArray.size=vs.size:=by simp;omega
   rw[e2];exact hth
  rw[sS]at hst;refine⟨g,.mslice (some ⟨b,0,none⟩) (n+ys.length) c,_,.id,.mslice _ _ _,hst,some ⟨b,0,none⟩,c,zs.take n++ys++zs.drop (n+ys.length),H0,rfl,.inr ⟨b,rfl,hb,by simp;omega,hc,hcm,rfl⟩,hRa _,?_⟩;rw[dZ aG,bA aG]
 obtain⟨os,hos,hfirstX⟩:∃os,RelCells g (U k (zs.take n)) os∧(Builtin.firstCells 1 n (.slice p n c)).run P w.drew= .ok os w.drew:=by
  rcases hsl with⟨h1,h2,h3,_⟩|⟨b,rfl,hb,hzl,hnc,hcm,rfl⟩
  ·subst h2;subst h3;exact⟨#[],by simpa[U]using RelCells.nil g,by cases p<;>simp[Builtin.firstCells,loadCells]<;>rfl⟩
  obtain⟨os,h1,h2⟩:=asH (P:=P) (o:=0) (k:=n) s.drew (oS H0 b _) (by rw[acL];omega);refine⟨os,by rwa[cU,boW]at h2,?_⟩;simp[Builtin.firstCells];exact h1
 have hlz:(zs.take n).length=n:=by
  rcases hsl with⟨h1,h2,h3,_⟩|⟨b,rfl,hb,hzl,hnc,hcm,rfl⟩
  ·subst h2;subst h3;rfl
  rw[aS];omega
 have hosz:os.size=n:=by rw[←hos.1,acL,hlz]
 have hgrow:=growslice_fits (bytes:=ti.bytes) (show c<n+ys.length by omega) hfit
 let nc:=(Question.appendCap (n+ys.length) c E).cut (w.tape w.drawn (.appendCap (n+ys.length) c E))
 have hneed:n+ys.length≤140737488355328:=aZ (eR _ (eI hb0)) hfit;have hnc:n+ys.length≤nc∧nc≤maxLen:=by
  show n+ys.length≤n+ys.length+_%(2^63-(n+ys.length))∧_;refine⟨fX _ _,?_⟩;show n+ys.length+w.tape w.drawn (.appendCap (n+ys.length) c E)%(2^63-(n+ys.length))≤maxLen;have:w.tape w.drawn (.appendCap (n+ys.length) c E)%(2^63-(n+ys.length))<2^63-(n+ys.length):=bU _ aA;unfold maxLen;omega
 let row:Array Value:=os++us++Builtin.zeroCells (Value.cells (.int k 0)) (nc-(n+ys.length))
 have hcz:(Value.cells (.int k 0)).size=1:=rfl;have hrun:(execOp a.eval ⟨dst,.call {callee:=.builtin .append,args:= #[x,y],argTypes:= #[T,T']},ty,pos,af,gd⟩).run P w= .ok (.value (.slice (some ⟨w.heap.size,0,none⟩) (n+ys.length) nc)) (w.drew.alloc (.cells row E)):=by
  have i2':=hfirst w.drew (imm w.drew rfl);have hforced:(Question.appendCap (n+ys.length) c E).forced=false:=rfl;have hnot2:¬(Builtin.nextslicecap (n+ys.length) c*ti.bytes>2^48):=by simpa using hgrow
  simp only[yN,builtin,Builtin.append_];simp[hex,hey,underlying,hu,hu',hs,hlenY,hc,hti,hb0,hforced,hz,newRow];rw[aL (by simpa using hnot2)];rw[hfirstX];simp only[Result.andThen_ok];rw[i2'];simp only[Result.andThen_ok];rw[←Array.append_assoc];rfl
 rw[hrun];have hrel:RelCells g (U k ((zs.take n++ys)++List.replicate (nc-(n+ys.length)) 0)) row:=by
  rw[←apZ,←apZ];refine(hos.append hus).append ?_;have e:U k (List.replicate (nc-(n+ys.length)) 0)=List.replicate (nc-(n+ys.length)) (.int k 0):=by simp[U]
  have e2:Builtin.zeroCells (Value.cells (.int k 0)) (nc-(n+ys.length))=Array.replicate (nc-(n+ys.length)) (.int k 0):=by
   apply Array.ext
   ·simp[Builtin.zeroCells,hcz]
   intro i h1 h2;simp[Builtin.zeroCells,Value.cells,Nat.mod_one]
  rw[e,e2];exact ahE (.int _ _)
 have s1:Sat g H w.drew:=s.drew;refine⟨g,.mslice (some ⟨w.heap.size,0,none⟩) (n+ys.length) nc,_,.id,.mslice _ _ _,s1.new_row_at E (.inl rfl) hrel,some ⟨w.heap.size,0,none⟩,nc,(zs.take n++ys)++List.replicate (nc-(n+ys.length)) 0,H,rfl,.inr ⟨w.heap.size,rfl,s.new_none,by simp[hlz];omega,hnc.1,hnc.2,rfl⟩,?_,?_⟩
 ·rcases hsl with⟨_,_,_,rfl⟩|⟨b,_,hb,_,_,_,rfl⟩
  ·exact hRa _
  exact Heap.le_set hb _
 rw[dZ (by simp[hlz]),bA (by simp[hlz])]
theorem azM{T T' E:TypeId}{x y:Operand}{k:IntKind}{ys:List Nat}{tl':Tail}{ti:TypeInfo}(hu:P.underlying T=some (.slice E))(hu':P.underlying T'=some (.slice E))
  (hs:∀w,(sizeOf E).run P w= .ok 1 w)(hti:∀w,(typeInfo E).run P w= .ok ti w)(hz:∀w,(zeroValue E).run P w= .ok (.int k 0) w)(hb0:ti.bytes≠0)
  (hx:Ev env x (.slice 1 [] .full))(hy:Ev env y (.slice 1 (U k ys) tl'))(hfit:ys.length*ti.bytes≤140737488355328):
  AStep P ⟨dst,.call {callee:=.builtin .append,args:= #[x,y],argTypes:= #[T,T']},ty,pos,af,gd⟩ env H
   (λr H'=>∃p' c' zs',r= .mslice p' ys.length c'∧SL E k p' ys.length c' zs' H H'∧zs'.take ys.length=ys):=by
 rcases bJ ys.length with h0|hpos
 ·have:=eH h0;subst this;intro g q a w ka s;obtain⟨vx,hex,hvx⟩:=ev1 hx ka;obtain⟨vy,hey,hvy⟩:=ev1 hy ka;obtain⟨us,hus,hlenY,hfirst⟩:=aeT (P:=P) hvy (alR k []);have hus0:us= #[]:=by
   have:=hus.1;rw[caB,acL]at this;exact Array.eq_empty_of_size_eq_zero this.symm
  subst hus0;obtain⟨p,rfl⟩:∃p,vx= .slice p 0 0:=by
   cases hvx with
   |nilSlice=>exact⟨none,rfl⟩
   |slice sz xs tl b off cap vs hsz hi hr hlen hcap htl=>
    have:(cap-0)*1=0:=htl;exact⟨some ⟨b,off,none⟩,by rw[show cap=0 by omega];rfl⟩
  have hex2:(execOp a.eval ⟨dst,.call {callee:=.builtin .append,args:= #[x,y],argTypes:= #[T,T']},ty,pos,af,gd⟩).run P w= .ok (.value (.slice p 0 0)) w:=by
   have i2:=hfirst w s.imm;simp only[yN,builtin,Builtin.append_];rw[acL]at hlenY i2;simp[hex,hey,underlying,hu,hu',hs,hlenY];rw[show(List.nil (α:=Nat)).length=0 from rfl]at i2;rw[i2];cases p<;>simp[storeCells]
  rw[hex2];exact⟨g,.mslice p 0 0,H,.id,.mslice _ _ _,s,p,0,[],rfl,.inl ⟨rfl,rfl,rfl,rfl⟩,rfl⟩
 have h:=aqK (P:=P) (env:=env) (H:=H) (dst:=dst) (ty:=ty) (pos:=pos) (af:=af) (gd:=gd) hu hu' hs hti hz hb0 hx hy hfit hpos;refine h.mono λr H' ⟨b,c,h1,h2,h3,h4,h5⟩=>⟨_,c,_,h1,.inr ⟨b,rfl,h2,?_,h3,h4,h5⟩,?_⟩
 ·simp;omega
 rw[dZ (aV _),dK]
end
end
section
open Go Go.RowKit
set_option maxRecDepth 100000
theorem boN{b:Nat}:arE a b≤0↔a≤b:=by unfold arE;split<;>(try split)<;>omega
theorem bxQ{ws:List Nat}(h:Limbs ws):Limbs (ws++[0]):=λy hy=>by
 rcases dP.1 hy with q|q
 ·exact h y q
 rw[List.mem_singleton.1 q];decide
theorem caQ(ws:List Nat):val (ws++[0])=val ws:=by
 induction ws with
 |nil=>rfl
 |cons w ws ih=>rw[cR,val,val,ih]
theorem bvK{j r:Nat}(h:0<j):aaI a j r=if(r+2^(j-1))*(r+2^(j-1))≤a then aaI a (j-1) (r+2^(j-1))else aaI a (j-1) r:=by
 obtain⟨i,rfl⟩:∃i,j=i+1:=⟨j-1,by omega⟩;rfl
def biF(a:Nat)(H:Heap):Nat→Env→Heap→Prop:=λk env H1=>∃(j Q:Nat)(ws:List Nat)(tl:Tail),j≤100∧Limbs ws∧ws.length≤4∧val ws=2^j*Q∧aaI a 100 0=aaI a j (val ws)∧env=[(0,qL a),(5,.slice 1 (U .u32 ws) tl),(6,.int .i64 ((j:Int)-1))]∧H.le H1∧k=j
def bvC(a i:Nat)(ws:List Nat)(tl:Tail)(H:Heap):Nat→Env→Heap→Prop:=λk env H1=>∃(p:Option Addr)(n c:Nat)(zs us:List Nat)(H0:Heap),SL 166 .u32 p n c zs H0 H1∧H.le H0∧zs.take n=us∧us.length=n∧Limbs us∧n≤4∧val us=val ws∧env=[(0,qL a),(5,.slice 1 (U .u32 ws) tl),(6,.int .i64 (i:Int)),(7,.mslice p n c)]∧k=4-n
theorem biE(a:Nat)(ha:a<2^200)(H:Heap):ACall prog 201 [qL a,.int .i64 100] H (λy H'=>(∃ws tl,y= .slice 1 (U .u32 ws) tl∧Limbs ws∧ws.length≤4∧val ws=aaI a 100 0)∧H'=H):=by
 have hle0:=hRa H;have haB:(zE a).length≤100000:=acK (cL ha aE);refine ACall.of_body func201 rfl ntmps201 results201 rfl ?_;iterate 7 refine AX ?_
 refine .e rfl (anC U107 Z166 V166) ?_;iterate 12 refine AM ?_
 refine AWP.loopW (biF a H) (100) ⟨100,0,[],.full,aV _,Limbs.nil,Nat.zero_le _,rfl,rfl,rfl,hle0,rfl⟩ sX (hRa _) ?_;rintro _ _ _ ⟨j,Q,ws,tl,hj,hwL,hwl,hwv,hwr,rfl,hleJ,hk⟩;iterate 7 refine AM ?_
 refine AWP.cx rfl (λhc12=>?_) (λhc12=>?_)
 ·have hj0:0<j:=by omega
  have hp1:val ws=2^(j-1+1)*Q:=by rw[show j-1+1=j by omega];exact hwv
  have hs1:=azS (bU (j-1) (by decide:0<32));have hrs:=bvK (a:=a) (r:=val ws) hj0;rw[show((j:Int)-1)=((j-1:Nat):Int) by omega];iterate 6 refine AX ?_
  refine .e rfl (anC U107 Z166 V166) ?_;refine AX ?_;refine .s rfl (azM (k:=.u32) (ys:=ws) U107 U107 Z166 typeInfo166 V166 aC (tm rfl) (tm rfl) (by show _*4≤_;omega)) ?_;rintro _ _ ⟨p,c,zs,rfl,hsl,hzt⟩;iterate 5 refine AX ?_
  refine AWP.loopW (bvC a (j-1) ws tl H) (4-ws.length) ⟨p,ws.length,c,zs,ws,_,hsl,hleJ,hzt,rfl,hwL,hwl,rfl,rfl,rfl⟩ sX (hRa _) ?_;rintro _ _ _ ⟨p,n,c,zs,us,H0,hsl,hleK,hzt,hul,huL,hn4,huv,rfl,hk⟩;iterate 10 refine AM ?_
  refine AWP.cx rfl (λhc22=>?_) (λhc22=>?_)
  ·iterate 5 refine AX ?_
   refine .e rfl (qM U107 Z166 V166 rfl (zR 0) (.inl rfl) ⟨rfl,rfl⟩) ?_;refine .s rfl (bdC (k:=.u32) (ys:=[0]) U107 U107 Z166 typeInfo166 V166 aC (tm rfl) hsl (tm rfl) (by show(_+1)*4≤_;omega) aC) ?_;rintro _ _ ⟨p2,c2,zs2,H2,rfl,hsl2,hle2,hzt2⟩;replace hzt2:List.take (n+1) zs2=List.take n zs++[0]:=hzt2;iterate 4 refine AX ?_
   refine Round.mk (J:=bvC a (j-1) ws tl H) ⟨p2,n+1,c2,zs2,us++[0],H2,hsl2,hleK.trans hle2,by rw[hzt2,hzt],by rw[aP,hul];rfl,bxQ huL,by omega,by rw[caQ,huv],rfl,rfl⟩ sX (hRa _) aA
  obtain⟨b,rfl,hb0,hzl,hnc,hcm,rfl⟩:=hsl.resolve_left (λq=>by have:=q.2.1;omega);have hgz:=huL.getD ((j-1)/32);have hlow:=cgG (bU (j-1) (by decide:0<32)) hgz (bnN huL (huv.trans hp1));have hgt:zs.getD ((j-1)/32) 0=us.getD ((j-1)/32) 0:=by rw[←hzt,aR,aR,eU,aJ]
  iterate 13 refine AM ?_
  refine .p rfl (yH ((j-1)/32) U107 Z166 (tm rfl) (tm rfl) aA aA) (.e rfl (yZ G166 (tm rfl) (oS _ _ _) aA) ?_);iterate 3 refine AM ?_
  refine .p rfl (amK (zR 1) (tm rfl) aA (by exact azS (bU _ aC))) (.p rfl (beI (tm rfl) (tm rfl) aA aB) (.p rfl (yH ((j-1)/32) U107 Z166 (tm rfl) (tm rfl) aA aA) (.e0 (yU Z166 (tm rfl) (tm rfl) (oS _ _ _) aA) ?_)));try first|rw[sS]|rw[sU aB]
  iterate 3 refine AX ?_
  refine AWP.frzU (t:=7) rfl hb0 (by rw[List.length_set];omega) hnc hcm ?_;rw[cK,hgt,hlow.1,List.take_set,hzt];have hvb:=beS (i:=j-1) huL aA (huv.trans hp1);have huL2:Limbs (us.set ((j-1)/32) (us.getD ((j-1)/32) 0+2^((j-1)%32))):=Limbs.set huL hlow.2;have hul2:(us.set ((j-1)/32) (us.getD ((j-1)/32) 0+2^((j-1)%32))).length≤4:=by rw[List.length_set];omega
  clear hzt hul hgz hlow hgt hn4 hnc hzl;generalize us.set ((j-1)/32) (us.getD ((j-1)/32) 0+2^((j-1)%32))=us at *;have hvs:val us=val ws+2^(j-1):=by rw[hvb,hp1,cA,bQ,fG,bH]
  have huB:val us*val us<BIG:=by have h:=agG huL2;have h4:(4294967296:Nat)^us.length≤4294967296^4:=aW aC hul2;exact aU (cS (cT (bM h h4)) (cT (bM h h4))) aE
  rw[←hvs]at hrs;iterate 3 refine AX ?_
  refine .cl rfl C83 (evs2 rfl rfl) (abN us .shared huL2 aA us .shared huL2 aA _) ?_;refine AX ?_;refine .cl rfl C155 (evs2 rfl rfl) (apG (zE (val us*val us)) .shared (zF _) (acK huB) (zE a) .shared (zF _) haB _) ?_;rw[zG,zG];iterate 3 refine AM ?_
  refine AWP.cx rfl (λhc45=>?_) (λhc45=>?_)
  ·have hcc:=boN.1 hc45;iterate 12 refine AM ?_
   refine Round.mk (J:=biF a H) ⟨j-1,_,us,.shared,by omega,huL2,hul2,hvb,by rw[hwr,hrs,aN hcc],rfl,hleK,rfl⟩ (zI rfl (zI rfl (zM rfl aD yJ))) (hRa _) aA
  have hcc:¬val us*val us≤a:=λq=>absurd (boN.2 q) aA;iterate 9 refine AM ?_
  refine Round.mk (J:=biF a H) ⟨j-1,2*Q,ws,tl,by omega,hwL,hwl,by rw[hp1,bQ,bH],by rw[hwr,hrs,aL hcc],rfl,hleK,rfl⟩ (zI rfl (zI rfl (zM rfl aD yJ))) (hRa _) aA
 have hj0:j=0:=by omega
 subst hj0;iterate 12 refine AX ?_
 refine Ret.go (.cons (.tmp _ _ rfl) .nil) _ (hleJ) ?_;exact⟨⟨_,_,rfl,hwL,hwl,by rw[hwr];rfl⟩,rfl⟩
end
end Go.Proofs.YtmmgbnolccpjoaaGreatDoor
