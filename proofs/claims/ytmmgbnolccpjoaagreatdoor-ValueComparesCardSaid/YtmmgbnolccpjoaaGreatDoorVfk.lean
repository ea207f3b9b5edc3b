import Derived.Test.YtmmgbnolccpjoaaGreatDoorVbk
import Derived.Test.YtmmgbnolccpjoaaGreatDoorA1
import Derived.Test.YtmmgbnolccpjoaaGreatDoorB6
set_option maxHeartbeats 1000000
namespace Go.Proofs.YtmmgbnolccpjoaaGreatDoor
open Go.Proofs.Tryz
open Go Go.RowKit
set_option maxRecDepth 100000
theorem bwW(n:Int):aoP n≠[]↔1≤n∧n≤8:=by
 constructor
 ·intro h;by_cases q:1≤n∧n≤8
  ·exact q
  exact absurd (by unfold aoP;rw[aI,aI,aI,aI,aI,aI,aI,aI]) h
 rintro⟨h1,h2⟩;have:n=1∨n=2∨n=3∨n=4∨n=5∨n=6∨n=7∨n=8:=by omega
 rcases this with rfl|rfl|rfl|rfl|rfl|rfl|rfl|rfl<;>decide
def okR(v:Val):Bool:=if v.kind=0 then true else if v.kind=1 then decide (zK v.bits<3)else if v.kind=2 then true else if v.kind=3 then decide (v.text.length≤1000)else if v.kind=4 then(decide (1≤v.fail)&&decide (v.fail≤8))else false
def akR(v:Val):Val:=if v.kind=1 then⟨v.kind,v.bits,false,[],0⟩else if v.kind=2 then⟨v.kind,0,v.is,[],0⟩else if v.kind=3 then⟨v.kind,0,false,v.text,0⟩else if v.kind=4 then⟨v.kind,0,false,[],v.fail⟩else aiT v.kind
theorem bvQ(v:Val):(okR v&&decide (v=akR v))=acN v:=by
 obtain⟨k,b,i,s,f⟩:=v;unfold acN okR akR;simp only;by_cases h0:k=0
 ·subst h0;simp[aiT]
 rw[aL h0,aL h0];by_cases h1:k=1
 ·subst h1;rw[aN rfl,aN rfl,aN rfl];unfold ajW yT;by_cases h:3≤zK b
  ·rw[aN h,bB (show¬zK b<3 by omega)];simp
  rw[aL h,aY (show zK b<3 by omega)];simp
 rw[aL h1,aL h1,aL h1];by_cases h2:k=2
 ·subst h2;simp[adH]
 rw[aL h2,aL h2,aL h2];by_cases h3:k=3
 ·subst h3;rw[aN rfl,aN rfl,aN rfl];unfold aqB yT;by_cases h:1000<s.length
  ·rw[aN h,bB (show¬s.length≤1000 by omega)];simp
  rw[aL h,aY (show s.length≤1000 by omega)];simp
 rw[aL h3,aL h3,aL h3];by_cases h4:k=4
 ·subst h4;have e:decide (aoP f≠[])=(decide (1≤f)&&decide (f≤8)):=by
   rw[←Bool.decide_and,aT];exact bwW f
  rw[aN rfl,aN rfl,aN rfl,e,Bool.and_comm];rfl
 rw[aL h4,Bool.false_and,aL h4]
theorem afQ(v:Val)(hb:v.bits<18446744073709551616):Fn 9 [v.av] (.bool (acN v)):=by
 intro H;refine .of_body func9 rfl ntmps9 results9 rfl ?_;iterate 8 refine AX ?_
 refine .p rfl (zA U24 rfl Z3 (tm rfl)) ?_;refine AX ?_;refine .p rfl (zX zr24 pl24 (.cons (tm rfl) (.inl rfl) .nil) rfl) ?_;refine .al zr24 (λb3 hb3=>?_);iterate 5 refine AX ?_
 refine .p rfl (zA U24 rfl Z3 (tm rfl)) ?_;iterate 5 refine AX ?_
 refine .meet (λenv H2=>env=[(1,.iptr v.cs),(2,.bool false),(3,.ptr (some ⟨b3,0,none⟩)),(4,.bool (okR v))]∧H2=H.set b3 (.box 24 (akR v).cs)) ?_ ?_
 ·iterate 2 refine AX ?_
  refine .p rfl (zA U24 rfl Z3 (tm rfl)) ?_;iterate 10 refine AX ?_
  refine .cx rfl (λhc13=>?_) (λhc13=>?_)
  ·iterate 2 refine AX ?_
   refine .p rfl (zA U24 rfl Z22 (tm rfl)) ?_;refine AX ?_;refine .p rfl (zD U24 rfl Z22 (tm rfl)) ?_;iterate 4 refine AX ?_
   refine .p rfl (zA U24 rfl Z22 (tm rfl)) ?_;refine AX ?_;refine .cl rfl C25 (evs1 rfl) (qA _ aB _) ?_;iterate 5 refine AX ?_
   refine .mk ⟨rfl,rfl⟩ (zI rfl (zI rfl (zI rfl (zM rfl (by(unfold okR;rw[aI,aJ];exact congrArg AV.bool (aT.2 aA))) yJ)))) (by unfold akR;first|(rw[aJ];exact hRa _)|(rw[aI,aJ];exact hRa _)|(rw[aI,aI,aJ];exact hRa _)|(rw[aI,aI,aI,aJ];exact hRa _)|(rw[aI,aI,aI,aI];exact hRa _))
  iterate 6 refine AX ?_
  refine .cx rfl (λhc22=>?_) (λhc22=>?_)
  ·iterate 2 refine AX ?_
   refine .p rfl (zA U24 rfl Z4 (tm rfl)) ?_;refine AX ?_;refine .p rfl (zD U24 rfl Z4 (tm rfl)) ?_;iterate 8 refine AX ?_
   refine .mk ⟨rfl,rfl⟩ (zI rfl (zI rfl (zI rfl (zM rfl (by(unfold okR;rw[aI,aI,aJ];done)) yJ)))) (by unfold akR;first|(rw[aJ];exact hRa _)|(rw[aI,aJ];exact hRa _)|(rw[aI,aI,aJ];exact hRa _)|(rw[aI,aI,aI,aJ];exact hRa _)|(rw[aI,aI,aI,aI];exact hRa _))
  iterate 6 refine AX ?_
  refine .cx rfl (λhc27=>?_) (λhc27=>?_)
  ·iterate 2 refine AX ?_
   refine .p rfl (zA U24 rfl Z9 (tm rfl)) ?_;refine AX ?_;refine .p rfl (zD U24 rfl Z9 (tm rfl)) ?_;iterate 4 refine AX ?_
   refine .p rfl (zA U24 rfl Z9 (tm rfl)) ?_;iterate 7 refine AX ?_
   refine .mk ⟨rfl,rfl⟩ (zI rfl (zI rfl (zI rfl (zM rfl (by(unfold okR;rw[aI,aI,aI,aJ];exact congrArg AV.bool (aT.2 aA))) yJ)))) (by unfold akR;first|(rw[aJ];exact hRa _)|(rw[aI,aJ];exact hRa _)|(rw[aI,aI,aJ];exact hRa _)|(rw[aI,aI,aI,aJ];exact hRa _)|(rw[aI,aI,aI,aI];exact hRa _))
  iterate 6 refine AX ?_
  refine .cx rfl (λhc36=>?_) (λhc36=>?_)
  ·iterate 2 refine AX ?_
   refine .p rfl (zA U24 rfl Z3 (tm rfl)) ?_;refine AX ?_;refine .p rfl (zD U24 rfl Z3 (tm rfl)) ?_;iterate 4 refine AX ?_
   refine .p rfl (zA U24 rfl Z3 (tm rfl)) ?_;iterate 3 refine AX ?_
   refine zC (t:=44) rfl (λhg44=>?_) (λhg44=>?_)
   ·have hh44:=hg44;try simp only[aO]at hh44
    refine .gp rfl rfl rfl aB (zA U24 rfl Z3 (tm rfl)) ?_;iterate 7 refine AX ?_
    refine .mk ⟨rfl,rfl⟩ (zI rfl (zI rfl (zI rfl (zM rfl (by(unfold okR;rw[aI,aI,aI,aI,aJ,show decide (1≤v.fail)=_ from hg44];rfl)) yJ)))) (by unfold akR;first|(rw[aJ];exact hRa _)|(rw[aI,aJ];exact hRa _)|(rw[aI,aI,aJ];exact hRa _)|(rw[aI,aI,aI,aJ];exact hRa _)|(rw[aI,aI,aI,aI];exact hRa _))
   have hh44:=hg44;try simp only[aM,dO]at hh44
   iterate 8 refine AX ?_
   refine .mk ⟨rfl,rfl⟩ (zI rfl (zI rfl (zI rfl (zM rfl (by(unfold okR;rw[aI,aI,aI,aI,aJ,show decide (1≤v.fail)=_ from hg44];rfl)) yJ)))) (by unfold akR;first|(rw[aJ];exact hRa _)|(rw[aI,aJ];exact hRa _)|(rw[aI,aI,aJ];exact hRa _)|(rw[aI,aI,aI,aJ];exact hRa _)|(rw[aI,aI,aI,aI];exact hRa _))
  iterate 3 refine AX ?_
  refine .mk ⟨rfl,rfl⟩ (zI rfl (zI rfl (zI rfl (zM rfl (by(by_cases h0:v.kind=0;unfold okR;rw[aN h0,aY h0];rw[bB h0];unfold okR;rw[aL h0,aI,aI,aI,aI])) yJ)))) (by unfold akR;first|(rw[aJ];exact hRa _)|(rw[aI,aJ];exact hRa _)|(rw[aI,aI,aJ];exact hRa _)|(rw[aI,aI,aI,aJ];exact hRa _)|(rw[aI,aI,aI,aI];exact hRa _))
 rintro _ _ ⟨rfl,rfl⟩;refine .seqTo 2 (.bool (okR v&&decide (v=akR v))) [] ?_ ?_
 ·iterate 3 refine AX ?_
  refine zC (t:=50) rfl (λhg50=>?_) (λhg50=>?_)
  ·have hh50:=hg50;try simp only[aK]at hh50
   refine AX ?_;refine .gs rfl rfl rfl aB (abX G24 Z24 (tm rfl) (oS _ _ _) (lB rfl)) ?_;rintro _ _ ⟨rfl,hH⟩;obtain rfl:=hH.symm;refine .gp rfl rfl rfl aB (qC eqGuardType24 (tm rfl) (tm rfl) (eqVal v (akR v))) ?_;iterate 3 refine AX ?_
   exact⟨rfl,zL rfl (by(rw[show okR v=_ from hg50];rfl)) yJ,rfl⟩
  have hh50:=hg50;try simp only[aK]at hh50
  iterate 6 refine AX ?_
  exact⟨rfl,zL rfl (by(rw[show okR v=_ from hg50];rfl)) yJ,rfl⟩
 refine .sub [(2,_)] (zI rfl yJ) ?_;refine .dropb (hb3) ?_;iterate 2 refine AX ?_
 refine⟨?_,rfl⟩;rw[←bvQ];rfl
def bmB(s:List UInt8)(H:Heap):Nat→Env→Heap→Prop:=λk env H1=>∃i t:Nat,i≤s.length∧env=[(0,.str s),(3,.slice 1 ((bcO (s.take i)).map bv) (.own t)),(4,.int .i64 (i:Int))]∧H.le H1∧H1.toks t=true∧H.toks t=false∧k=s.length-i
theorem bzO{s:List UInt8}{i:Nat}(h:i<s.length):bcO (s.take (i+1))=bcO (s.take i)++[boP (s.getD i 0)]:=by
 have e2:s.getD i 0=s[i]:=by rw[aR,bG h];rfl
 rw[e2];unfold bcO;rw[←cV h,fU];rfl
theorem bzP{c:UInt8}(h:97≤c.toNat∧c.toNat≤122):((c.toNat:Nat):Int)-32=(((boP c).toNat:Nat):Int):=by
 rw[boP,aN h,fN,bE aA];omega
theorem aqM(s:List UInt8)(hs:s.length≤1000000)(H:Heap):ACall prog 42 [.str s] H (λz H'=>z= .str (bcO s)∧H'=H):=by
 have hle0:=hRa H;have hml:=zJ;refine ACall.of_body func42 rfl ntmps42 results42 rfl ?_;iterate 17 refine AX ?_
 refine AWP.tag (t:=3) rfl (λu3 hu3=>?_);have hfu3:=Heap.fresh_of hle0 hu3;have hleu3:=Heap.le_in hle0 u3;refine AWP.loopW (bmB s H) (s.length) ⟨0,u3,Nat.zero_le _,rfl,hleu3,Heap.toks_live_same _ _,hfu3,rfl⟩ sX (hRa _) ?_;rintro _ _ H1 ⟨i,t,hi,rfl,hle1,hlive,hfr,rfl⟩;iterate 9 refine AX ?_
 refine AWP.cx rfl (λhc9=>?_) (λhc9=>?_)
 ·iterate 12 refine AX ?_
  refine AWP.seqToL [(5,.int .u8 (((boP (s.getD i 0)).toNat:Nat):Int))] [0,3,4] ?_ ?_
  ·refine AWP.seqTo 20 (.bool (decide ((97:Int)≤(((s.getD i 0).toNat:Nat):Int))&&decide ((((s.getD i 0).toNat:Nat):Int)≤122))) [0,3,4,5] ?_ ?_
   ·iterate 4 refine AX ?_
    refine zC (t:=17) rfl (λhg17=>?_) (λhg17=>?_)
    ·have hh17:=hg17;try simp only[aO]at hh17
     iterate 4 refine AX ?_
     exact⟨rfl,zL rfl (by(rw[show decide ((97:Int)≤(((s.getD i 0).toNat:Nat):Int))=_ from hg17];rfl)) sX,rfl⟩
    have hh17:=hg17;try simp only[aM,dO]at hh17
    iterate 4 refine AX ?_
    exact⟨rfl,zL rfl (by(rw[show decide ((97:Int)≤(((s.getD i 0).toNat:Nat):Int))=_ from hg17];rfl)) sX,rfl⟩
   refine AWP.sub [(20,_),(0,_),(3,_),(4,_),(5,_)] sX ?_;refine AWP.cx rfl (λhc20=>?_) (λhc20=>?_)
   ·iterate 2 refine AX ?_
    refine .p rfl (aiI (tm rfl) zH) ?_;iterate 2 refine AX ?_
    exact⟨rfl,(zM rfl (by(simp only[bL,aO]at hc20;refine congrArg (AV.int .u8) ?_;show IntKind.u8.wrap ((((s.getD i 0).toNat:Nat):Int)-32)=_;have:=(s.getD i 0).toNat_lt;rw[←bzP aA,wrap8 aA aA])) sX),rfl⟩
   refine AX ?_;exact⟨rfl,(zM rfl (by(show AV.int .u8 (((s.getD i 0).toNat:Nat):Int)=_;rw[bgL (by simp only[bX,aM]at hc20;omega)];done)) sX),rfl⟩
  refine AWP.sub [(5,_),(0,_),(3,_),(4,_)] sX ?_;iterate 3 refine AX ?_
  refine .e rfl (qM U142 Z5 V5 rfl (tm rfl) (.inl rfl) ⟨rfl,rfl⟩) ?_;refine .s rfl (abD U142 U142 Z5 typeInfo5 V5 rfl aC (tm rfl) (tm rfl) (by exact .own _ hlive) (by show(_+_)*1≤_;simp only[eS,aX,bN,boO,aS];omega) (by repeat' (first|exact yA _|exact aaS|exact afI ⟨rfl,rfl⟩ aaS|exact qW (yA _)|exact qV (yA _)|refine aaW ?_ ?_ |exact cfV _)) (by repeat' (first|exact yA _|exact aaS|exact afI ⟨rfl,rfl⟩ aaS|exact qW (yA _)|exact qV (yA _)|refine aaW ?_ ?_))) ?_;rintro _ _ ⟨t26,ht26,rfl,hH⟩;obtain rfl:=hH.symm;have hf26:=Heap.fresh_of hle1 ht26;have hle26:=Heap.le_in (Heap.le_out (t:=t) hle1 aB) t26;iterate 10 refine AX ?_
  refine Round.mk (J:=bmB s H) ⟨i+1,t26,by omega,rfl,hle26,Heap.toks_live_same _ _,hf26,rfl⟩ (zI rfl (zM rfl (by rw[bzO aA];exact adI (bzR _ _)) (zM rfl (by congr 1) yJ))) (hRa _) aA
 have hi2:i=s.length:=by omega
 iterate 8 refine AX ?_
 refine .e rfl (akY U142 U9 U5 (tm rfl)) ?_;iterate 4 refine AX ?_
 refine Ret.go (.cons (.tmp _ _ rfl) .nil) _ (hle1) ?_;refine⟨?_,rfl⟩;rw[hi2,dK];rfl
theorem anJ(l:Loc)(hk:l.ok)(v:Val)(hv:v.bits<18446744073709551616)(ht:v.text.length≤1000):Fn 17 [v.av,rL l] (.tuple [.str (abA l v).1,.int .i64 (abA l v).2]):=by
 intro H;refine .of_body func17 rfl ntmps17 results17 rfl ?_;iterate 11 refine AX ?_
 refine .p rfl (zA U24 rfl Z3 (tm rfl)) ?_;iterate 10 refine AX ?_
 refine .cx rfl (λhc8=>?_) (λhc8=>?_)
 ·iterate 2 refine AX ?_
  refine .p rfl (zA U24 rfl Z22 (tm rfl)) ?_;iterate 2 refine AX ?_
  refine .cl rfl call45 (evs2 rfl rfl) (awK l hk v.bits hv _) ?_;iterate 8 refine AX ?_
  refine⟨?_,rfl⟩;unfold abA;rw[aJ];rfl
 iterate 6 refine AX ?_
 refine .cx rfl (λhc14=>?_) (λhc14=>?_)
 ·iterate 3 refine AX ?_
  refine .p rfl (zA U24 rfl Z4 (tm rfl)) ?_;iterate 3 refine AX ?_
  refine .cx rfl (λhc17=>?_) (λhc17=>?_)
  ·iterate 11 refine AX ?_
   refine⟨?_,rfl⟩;unfold abA;rw[aI,aJ,hc17];rfl
  iterate 12 refine AX ?_
  refine⟨?_,rfl⟩;unfold abA;rw[aI,aJ,hc17];rfl
 iterate 6 refine AX ?_
 refine .cx rfl (λhc18=>?_) (λhc18=>?_)
 ·iterate 2 refine AX ?_
  refine .p rfl (zA U24 rfl Z9 (tm rfl)) ?_;iterate 9 refine AX ?_
  refine⟨?_,rfl⟩;unfold abA;rw[aI,aI,aJ];rfl
 iterate 6 refine AX ?_
 refine .cx rfl (λhc22=>?_) (λhc22=>?_)
 ·refine AX ?_;refine .draw [(0,true),(1,true),(2,true),(3,true)] rfl aE ?_;refine .p rfl rfl (zA U24 rfl Z3 (tm rfl)) ?_;iterate 9 refine AX ?_
  refine⟨?_,rfl⟩;unfold abA;rw[aI,aI,aI,aJ];rfl
 iterate 11 refine AX ?_
 refine⟨?_,rfl⟩;unfold abA;rw[aI,aI,aI,aI];rfl
theorem bgB{l:Loc}(hl:l.entOk){s:List UInt8}(h:s.length≤1000):arC l s=acB l (aaQ zQ s):=by unfold arC;rw[aI,ccV hl]
theorem agO(l:Loc)(hl:l.entOk)(hk:l.ok)(hg:l.grp≠[])(v:Val)(hv:v.bits<18446744073709551616)(ht:v.text.length≤1000):Fn 13 [v.av,rL l] (.tuple [.int .u64 (((yO l v).1:Nat):Int),.int .i64 (yO l v).2]):=by
 intro H;refine .of_body func13 rfl ntmps13 results13 rfl ?_;iterate 11 refine AX ?_
 refine .p rfl (zA U24 rfl Z3 (tm rfl)) ?_;iterate 10 refine AX ?_
 refine .cx rfl (λhc10=>?_) (λhc10=>?_)
 ·iterate 2 refine AX ?_
  refine .p rfl (zA U24 rfl Z22 (tm rfl)) ?_;iterate 9 refine AX ?_
  refine⟨?_,rfl⟩;unfold yO;rw[aJ];rfl
 iterate 6 refine AX ?_
 refine .cx rfl (λhc14=>?_) (λhc14=>?_)
 ·iterate 2 refine AX ?_
  refine .p rfl (zA U24 rfl Z4 (tm rfl)) ?_;iterate 3 refine AX ?_
  refine .cx rfl (λhc17=>?_) (λhc17=>?_)
  ·iterate 10 refine AX ?_
   refine⟨?_,rfl⟩;unfold yO;rw[aI,aN ⟨by omega,hc17⟩];rfl
  iterate 11 refine AX ?_
  refine⟨?_,rfl⟩;unfold yO;rw[aI,aL (λq=>by rw[hc17]at q;exact absurd q.2 aC),aI,aI];rfl
 iterate 6 refine AX ?_
 refine .cx rfl (λhc18=>?_) (λhc18=>?_)
 ·iterate 2 refine AX ?_
  refine .p rfl (zA U24 rfl Z9 (tm rfl)) ?_;iterate 2 refine AX ?_
  refine .cl rfl call39 (evs2 rfl rfl) (beF l hl hk hg v.text aA _) ?_;rw[bgB hl ht];iterate 3 refine AX ?_
  refine .al zr79 (λb6 hb6=>?_);iterate 4 refine AX ?_
  refine .frz (t:=6) rfl (hb6) ?_;iterate 7 refine AX ?_
  refine .cx rfl (λhc28=>?_) (λhc28=>?_)
  ·iterate 11 refine AX ?_
   refine⟨?_,rfl⟩;unfold yO;rw[aI,aL (λq=>by omega),aJ,aJ];rfl
  iterate 4 refine AX ?_
  refine .p rfl (zA U79 rfl Z22 (tm rfl)) ?_;iterate 9 refine AX ?_
  refine⟨?_,rfl⟩;unfold yO;rw[aI,aL (λq=>by omega),aJ,aI];rfl
 iterate 6 refine AX ?_
 refine .cx rfl (λhc31=>?_) (λhc31=>?_)
 ·refine AX ?_;refine .draw [(0,true),(1,true),(2,true),(3,true)] rfl aE ?_;refine .p rfl rfl (zA U24 rfl Z3 (tm rfl)) ?_;iterate 9 refine AX ?_
  refine⟨?_,rfl⟩;unfold yO;rw[aI,aL (λq=>by omega),aI,aJ];rfl
 iterate 11 refine AX ?_
 refine⟨?_,rfl⟩;unfold yO;rw[aI,aL (λq=>by omega),aI,aI];rfl
end Go.Proofs.YtmmgbnolccpjoaaGreatDoor
