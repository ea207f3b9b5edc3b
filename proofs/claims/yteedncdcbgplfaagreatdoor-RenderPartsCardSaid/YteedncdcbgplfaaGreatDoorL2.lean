import Derived.Test.YteedncdcbgplfaaGreatDoorL1
set_option maxHeartbeats 1000000
namespace Go.Proofs.YteedncdcbgplfaaGreatDoor
open Go.Proofs.Tryz
open Go Go.RowKit
theorem bbS(x:Nat):abK (abK x)=abK x:=by unfold abK;omega
theorem bnY(x:Nat):abK (abK x+9223372036854775808)=abK x:=by unfold abK;omega
theorem awP{o:Loc}{s:SecN}{x y:Nat}(hs:zY s≠6)(h:abK x=abK y):qI o s x=qI o s y:=by
 unfold qI;rw[aM hs,aM hs,h]
theorem bbI{x y:Nat}(h:abK x=abK y):yZ x=yZ y:=by rw[←alC x,←alC y,h]
theorem azZ(s:SecN)(x:Nat):aqU [s] x=s:=by
 unfold aqU;rw[aM (λh=>absurd h.1 aF),aM (λh=>absurd h.1 aF)];rfl
theorem bjM(o:Loc)(s:SecN)(hs:zY s≠6)(x:Nat):
  (yV o [s] (abK x)).2=(yV o [s] (abK x+9223372036854775808)).2∧((yV o [s] (abK x)).1=(yV o [s] (abK x+9223372036854775808)).1∨(yV o [s] (abK x+9223372036854775808)).1=o.minus++(yV o [s] (abK x)).1):=by
 have ha:=bbS x;have hb:=bnY x;unfold yV;rw[azZ,azZ,bbI hb,awP (o:=o) hs (hb.trans ha.symm),bbI ha];split
 ·exact⟨rfl,.inl rfl⟩
 split
 ·exact⟨rfl,.inl rfl⟩
 refine⟨rfl,?_⟩;have h0:¬abK x/9223372036854775808=1:=by unfold abK;omega
 rw[aM (λh=>h0 h.2.1)];split
 ·exact .inr rfl
 exact .inl rfl
theorem bgL{o:Loc}(ho:o.ok)(p:List SecN)(x:Nat):(yV o p x).1.length≤200000010:=by
 unfold yV;split
 ·exact Nat.zero_le _
 rename_i h1
 split
 ·exact Nat.zero_le _
 rename_i h2
 have hr:aaN p=true:=by simpa using h1
 obtain⟨hp1,_⟩:=aeJ hr;obtain⟨hl1,hl2,_⟩:=ahI hr (atV hp1 x);have h3:=(anS (x:=x) ho hl1 hl2 aA).2;have h4:=ho.2.2.1;rw[aR];split
 ·omega
 show 0+_≤_;omega
theorem bkQ{a b:SecN}(h:aaN [a,b]=true):aaN [a]=true∧aaN [b]=true∧zY a≠6∧zY b≠6:=by
 unfold aaN at h;rw[bD,aW]at h;obtain⟨⟨_,_,hs⟩,hw⟩:=h;have hw:aeN [a,b]=false:=by simpa using hw
 unfold aeN at hw;rw[List.any_eq_false]at hw;have h0:=hw 0 aF;have h1:=hw 1 aF;have e0:aiN [a,b] 0=a:=rfl;have e1:aiN [a,b] 1=b:=rfl;rw[e0]at h0;rw[e1]at h1;have hs':a.items.length+(b.items.length+0)≤100:=hs;have key:∀(s:SecN)(i:Nat),i<2→¬azJ [a,b].length i (zY s)=true→s.items.length≤100→aaN [s]=true∧zY s≠6:=by
  intro s i hi hb hl;unfold azJ at hb;by_cases k0:zY s=0
  ·rw[aN k0]at hb;exact absurd rfl hb
  rw[aM k0]at hb;have h6:zY s≠6:=by
   intro k6;rw[aJ,aN k6]at hb;exact hb (aQ ⟨by omega,by simp⟩)
  refine⟨?_,h6⟩;unfold aaN;rw[bD,aW];refine⟨⟨bB _,(by show 1≤4;omega),(by show s.items.length+0≤100;omega)⟩,?_⟩;have:aeN [s]=false:=by
   unfold aeN;rw[List.any_eq_false];intro j hj;have hj:j=0:=by have:=fF.1 hj;simp at this;exact this
   subst hj;show¬azJ 1 0 (zY s)=true;unfold azJ;rw[aM k0,aM h6];split
   ·simp
   simp
  rw[this];rfl
 exact⟨(key a 0 aA h0 aA).1,(key b 1 aA h1 aA).1,(key a 0 aA h0 aA).2,(key b 1 aA h1 aA).2⟩
theorem bmT:yZ 9223372036854775808=0:=by decide
theorem axR(o:Loc)(a b:SecN)(x:Nat)(hx:x<18446744073709551616)(hr:aaN [a,b]=true)(hk:yZ x<3)(c:SecN)(hc:c=if 9223372036854775808<x then b else a):
  yV o [a,b] x=yV o [c] (abK x)∧(yV o [a,b] x).2=0:=by
 obtain⟨ra,rb,sa,sb⟩:=bkQ hr;have hrc:aaN [c]=true∧zY c≠6:=by rw[hc];split<;>exact⟨by assumption,by assumption⟩
 have hsec:aqU [a,b] x=c:=by
  rw[hc];unfold aqU;by_cases h:9223372036854775808<x
  ·rw[aN h,aN]
   ·rfl
   refine⟨bB _,by omega,?_⟩;intro hz;unfold yZ at hz;split at hz
   ·split at hz<;>omega
   split at hz
   ·split at hz
    ·omega
    omega
   omega
  rw[aM h,aM]
  ·rw[aM (λh=>absurd h.1 aF)];rfl
  rintro⟨_,h1,h2⟩;have:x=9223372036854775808:=by omega
  subst this;exact h2 bmT
 have e1:yV o [a,b] x=(afA (qI o c x).1,0):=by
  unfold yV;rw[aM (by rw[hr];simp),aM (show¬3≤yZ x by omega),hsec,aM (λh=>absurd h.2.2 aF),cP]
 have e2:yV o [c] (abK x)=(afA (qI o c (abK x)).1,0):=by
  unfold yV;rw[aM (by rw[hrc.1];simp),bbI (bbS x),aM (show¬3≤yZ x by omega),azZ,aM (λh=>absurd h.2.1 (by unfold abK;omega)),cP]
 rw[e1,e2,awP (o:=o) hrc.2 (bbS x).symm];exact⟨rfl,rfl⟩
theorem bqF(o:Loc)(a b:SecN)(x:Nat)(hr:aaN [a,b]=false):yV o [a,b] x=([],12):=by
 unfold yV;rw[aN hr]
section
open Go Go.RowKit
set_option maxRecDepth 100000
theorem bjW{p:List SecN}(tp:Tail)(h:okP p=false):Fn 10 [.agg [adV p tp]] (.tuple [.slice 3 [] .shared,.bool false]):=by
 intro H;have e:=adM p tp H;unfold aoT at e;rw[h]at e;exact e
theorem anU{p:List SecN}(tp:Tail)(h:okP p=true):Fn 10 [.agg [adV p tp]] (.tuple [adV p .shared,.bool true]):=by
 intro H;have e:=adM p tp H;unfold aoT at e;rw[aN h,h]at e;exact e
theorem bsD(p:List SecN)(tp:Tail)(hq:okP p=false)(x:Nat)(c:Int):Fn 5 [.agg [adV p tp],.int .u64 (x:Int),.int .i64 c] (.bool true):=by
 intro H;refine .of_body func5 rfl ntmps5 results5 rfl ?_;refine AX ?_;refine AX ?_;refine .s rfl (qR (.tmp _ _ rfl) (.inr ⟨_,rfl⟩)) ?_;rintro _ _ ⟨rfl,hH⟩;obtain rfl:=hH.symm;refine .p rfl (zE yA) ?_;refine .nil ?_;iterate 2 refine AX ?_
 refine AX ?_;refine .s rfl (zD C9 .nil (acM _)) ?_;rintro _ _ ⟨rfl,hH⟩;obtain rfl:=hH.symm;refine .p rfl (zE (.tmp _ _ rfl)) ?_;refine .nil ?_;iterate 2 refine AX ?_
 refine AX ?_;first|(refine .p rfl (yJ G24 Z24 (.tmp _ _ rfl) (lB rfl)) ?_)|(refine .s rfl (zZ G24 Z24 (.tmp _ _ rfl) (by first|assumption|exact(by assumption:Heap.le _ _).objs _ _ aB|exact oS _ _ _|exact(oN _ _ aB).trans (oS _ _ _)|exact(oN _ _ aB).trans ((oN _ _ aB).trans (oS _ _ _))|exact(oN _ _ aB).trans aB) (lB rfl)) ?_;rintro _ _ ⟨rfl,hH⟩;obtain rfl:=hH.symm)
 refine .s rfl (zD C10 (.cons (.tmp _ _ rfl) .nil) (bjW tp hq _)) ?_;rintro _ _ ⟨rfl,hH⟩;obtain rfl:=hH.symm;refine .p rfl (zB (.tmp _ _ rfl)) ?_;refine .p rfl (yB (.tmp _ _ rfl) rfl) ?_;refine .p rfl (yB (.tmp _ _ rfl) rfl) ?_;refine .p rfl (zE (.tmp _ _ rfl)) ?_;refine .p rfl (zE (.tmp _ _ rfl)) ?_;refine .nil ?_;iterate 3 refine AX ?_
 refine AX ?_;refine .p rfl (zB (.tmp _ _ rfl)) ?_;refine .p rfl (aaB (.tmp _ _ rfl)) ?_;refine .p rfl (zB (.tmp _ _ rfl)) ?_;refine .gp rfl rfl rfl aH (zB (.tmp _ _ rfl)) ?_;refine .gp rfl rfl rfl aH (aaB (.tmp _ _ rfl)) ?_;refine .p rfl (yG (.tmp _ _ rfl) aH (.tmp _ _ rfl)) ?_;refine .p rfl (zB (.tmp _ _ rfl)) ?_;refine .gn rfl rfl rfl aH ?_;refine .gn rfl rfl rfl aH ?_;refine .gn rfl rfl rfl aH ?_;refine .p rfl (yE (.tmp _ _ rfl) aH yA) ?_;refine .p rfl (zB (.tmp _ _ rfl)) ?_;refine .gn rfl rfl rfl aH ?_;refine .gn rfl rfl rfl aH ?_;refine .gn rfl rfl rfl aH ?_;refine .gn rfl rfl rfl aH ?_;refine .gn rfl rfl rfl aH ?_;refine .p rfl (yE (.tmp _ _ rfl) aH yA) ?_;refine .p rfl (zB (.tmp _ _ rfl)) ?_;refine .gn rfl rfl rfl aH ?_;refine .gn rfl rfl rfl aH ?_;refine .gn rfl rfl rfl aH ?_;refine .p rfl (yE (.tmp _ _ rfl) aH yA) ?_;refine .nil ?_;refine AX ?_
 
 refine .cond_true (.tmp _ _ rfl) aD ?_;refine AX ?_;refine AX ?_;refine .p rfl (zB (.tmp _ _ rfl)) ?_;refine .p rfl (zE (.tmp _ _ rfl)) ?_;refine .nil ?_;iterate 3 refine AX ?_
 
 refine AX ?_;exact⟨rfl,rfl⟩
theorem boE(p:List SecN)(tp:Tail)(hq:okP p=true)(hlen:p.length≠1)(x:Nat)(c:Int):Fn 5 [.agg [adV p tp],.int .u64 (x:Int),.int .i64 c] (.bool true):=by
 intro H;have h31:decide ((p.length:Int)≠1)=true:=aQ aA;refine .of_body func5 rfl ntmps5 results5 rfl ?_;refine AX ?_;refine AX ?_;refine .s rfl (qR (.tmp _ _ rfl) (.inr ⟨_,rfl⟩)) ?_;rintro _ _ ⟨rfl,hH⟩;obtain rfl:=hH.symm;refine .p rfl (zE yA) ?_;refine .nil ?_;iterate 2 refine AX ?_
 refine AX ?_;refine .s rfl (zD C9 .nil (acM _)) ?_;rintro _ _ ⟨rfl,hH⟩;obtain rfl:=hH.symm;refine .p rfl (zE (.tmp _ _ rfl)) ?_;refine .nil ?_;iterate 2 refine AX ?_
 refine AX ?_;first|(refine .p rfl (yJ G24 Z24 (.tmp _ _ rfl) (lB rfl)) ?_)|(refine .s rfl (zZ G24 Z24 (.tmp _ _ rfl) (by first|assumption|exact(by assumption:Heap.le _ _).objs _ _ aB|exact oS _ _ _|exact(oN _ _ aB).trans (oS _ _ _)|exact(oN _ _ aB).trans ((oN _ _ aB).trans (oS _ _ _))|exact(oN _ _ aB).trans aB) (lB rfl)) ?_;rintro _ _ ⟨rfl,hH⟩;obtain rfl:=hH.symm)
 refine .s rfl (zD C10 (.cons (.tmp _ _ rfl) .nil) (anU tp hq _)) ?_;rintro _ _ ⟨rfl,hH⟩;obtain rfl:=hH.symm;refine .p rfl (zB (.tmp _ _ rfl)) ?_;refine .p rfl (yB (.tmp _ _ rfl) rfl) ?_;refine .p rfl (yB (.tmp _ _ rfl) rfl) ?_;refine .p rfl (zE (.tmp _ _ rfl)) ?_;refine .p rfl (zE (.tmp _ _ rfl)) ?_;refine .nil ?_;iterate 3 refine AX ?_
 refine AX ?_;refine .p rfl (zB (.tmp _ _ rfl)) ?_;refine .p rfl (aaB (.tmp _ _ rfl)) ?_;refine .p rfl (zB (.tmp _ _ rfl)) ?_;refine .gp rfl rfl rfl aH (zB (.tmp _ _ rfl)) ?_;refine .gp rfl rfl rfl aH (aaB (.tmp _ _ rfl)) ?_;refine .p rfl (yG (.tmp _ _ rfl) aH (.tmp _ _ rfl)) ?_;refine .p rfl (zB (.tmp _ _ rfl)) ?_;refine .gp rfl rfl rfl aH (zB (.tmp _ _ rfl)) ?_;first|(refine .gp rfl rfl rfl aH (akF U27 (.tmp _ _ rfl)) ?_)|(refine .gp rfl rfl rfl aH (adS U27 (.tmp _ _ rfl)) ?_)|(refine .gp rfl rfl rfl aH (aeV U27 (.tmp _ _ rfl)) ?_)
 refine .gp rfl rfl rfl aH (aiD (.tmp _ _ rfl) zJ) ?_;refine .p rfl (yG (.tmp _ _ rfl) aH (.tmp _ _ rfl)) ?_;refine .p rfl (zB (.tmp _ _ rfl)) ?_;refine .gn rfl rfl rfl aH ?_;refine .gn rfl rfl rfl aH ?_;refine .gn rfl rfl rfl aH ?_;refine .gn rfl rfl rfl aH ?_;refine .gn rfl rfl rfl aH ?_;refine .p rfl (yE (.tmp _ _ rfl) aH yA) ?_;refine .p rfl (zB (.tmp _ _ rfl)) ?_;refine .gn rfl rfl rfl aH ?_;refine .gn rfl rfl rfl aH ?_;refine .gn rfl rfl rfl aH ?_;refine .p rfl (yE (.tmp _ _ rfl) aH yA) ?_;refine .nil ?_;refine AX ?_
 
 refine .cond_true (.tmp _ _ rfl) aD ?_;refine AX ?_;refine AX ?_;refine .p rfl (zB (.tmp _ _ rfl)) ?_;refine .p rfl (zE (.tmp _ _ rfl)) ?_;refine .nil ?_;iterate 3 refine AX ?_
 
 refine AX ?_;exact⟨rfl,rfl⟩
theorem boD(s:SecN)(tp:Tail)(hq:okP [s]=true)(x:Nat)(hx:x<18446744073709551616)(c:Int)(hc: -9223372036854775808≤c∧c≤9223372036854775807):Fn 5 [.agg [adV [s] tp],.int .u64 (x:Int),.int .i64 c] (.bool true):=by
 intro H;have hsl:s.items.length≤1000:=adT hq s (dG.2 rfl);refine .of_body func5 rfl ntmps5 results5 rfl ?_;refine AX ?_;refine AX ?_;refine .s rfl (qR (.tmp _ _ rfl) (.inr ⟨_,rfl⟩)) ?_;rintro _ _ ⟨rfl,hH⟩;obtain rfl:=hH.symm;refine .p rfl (zE yA) ?_;refine .nil ?_;iterate 2 refine AX ?_
 refine AX ?_;refine .s rfl (zD C9 .nil (acM _)) ?_;rintro _ _ ⟨rfl,hH⟩;obtain rfl:=hH.symm;refine .p rfl (zE (.tmp _ _ rfl)) ?_;refine .nil ?_;iterate 2 refine AX ?_
 refine AX ?_;first|(refine .p rfl (yJ G24 Z24 (.tmp _ _ rfl) (lB rfl)) ?_)|(refine .s rfl (zZ G24 Z24 (.tmp _ _ rfl) (by first|assumption|exact(by assumption:Heap.le _ _).objs _ _ aB|exact oS _ _ _|exact(oN _ _ aB).trans (oS _ _ _)|exact(oN _ _ aB).trans ((oN _ _ aB).trans (oS _ _ _))|exact(oN _ _ aB).trans aB) (lB rfl)) ?_;rintro _ _ ⟨rfl,hH⟩;obtain rfl:=hH.symm)
 refine .s rfl (zD C10 (.cons (.tmp _ _ rfl) .nil) (anU tp hq _)) ?_;rintro _ _ ⟨rfl,hH⟩;obtain rfl:=hH.symm;refine .p rfl (zB (.tmp _ _ rfl)) ?_;refine .p rfl (yB (.tmp _ _ rfl) rfl) ?_;refine .p rfl (yB (.tmp _ _ rfl) rfl) ?_;refine .p rfl (zE (.tmp _ _ rfl)) ?_;refine .p rfl (zE (.tmp _ _ rfl)) ?_;refine .nil ?_;iterate 2 refine AX ?_
 refine .seqTo 44 (.bool (decide (zY s=6)||decide ((3:Int)≤(yZ x:Int)))) [1,2,3,6,7] ?_ ?_
 ·refine AX ?_;refine .p rfl (zB (.tmp _ _ rfl)) ?_;refine .p rfl (aaB (.tmp _ _ rfl)) ?_;refine .p rfl (zB (.tmp _ _ rfl)) ?_;refine .gp rfl rfl rfl aH (zB (.tmp _ _ rfl)) ?_;refine .gp rfl rfl rfl aH (aaB (.tmp _ _ rfl)) ?_;refine .p rfl (yG (.tmp _ _ rfl) aH (.tmp _ _ rfl)) ?_;refine .p rfl (zB (.tmp _ _ rfl)) ?_;refine .gp rfl rfl rfl aH (zB (.tmp _ _ rfl)) ?_;first|(refine .gp rfl rfl rfl aH (akF U27 (.tmp _ _ rfl)) ?_)|(refine .gp rfl rfl rfl aH (adS U27 (.tmp _ _ rfl)) ?_)|(refine .gp rfl rfl rfl aH (aeV U27 (.tmp _ _ rfl)) ?_)
  refine .gp rfl rfl rfl aH (aiD (.tmp _ _ rfl) zJ) ?_;refine .p rfl (yG (.tmp _ _ rfl) aH (.tmp _ _ rfl)) ?_;refine .p rfl (zB (.tmp _ _ rfl)) ?_;refine .gp rfl rfl rfl aH (zB (.tmp _ _ rfl)) ?_;first|(refine .gp rfl rfl rfl aH (agM U27 Z48 (.tmp _ _ rfl) zJ (by first|(simp;done)|omega) (by first|(simp;done)|omega)) ?_)|(refine .gp rfl rfl rfl aH (yH U27 Z48 (.tmp _ _ rfl) zJ (by first|(simp;done)|omega) (by first|(simp;done)|omega)) ?_)
  first|(refine .gp rfl rfl rfl aH (yJ G48 Z48 (.tmp _ _ rfl) (lB rfl)) ?_)|(refine .gs rfl rfl rfl aH (zZ G48 Z48 (.tmp _ _ rfl) (by first|assumption|exact(by assumption:Heap.le _ _).objs _ _ aB|exact oS _ _ _|exact(oN _ _ aB).trans (oS _ _ _)|exact(oN _ _ aB).trans ((oN _ _ aB).trans (oS _ _ _))|exact(oN _ _ aB).trans aB) (lB rfl)) ?_;rintro _ _ ⟨rfl,hH⟩;obtain rfl:=hH.symm)
  refine .gs rfl rfl rfl aH (zD C16 (.cons (.tmp _ _ rfl) .nil) (afK s.items s.grouped s.scale _ aA _)) ?_;rintro _ _ ⟨rfl,hH⟩;obtain rfl:=hH.symm;refine .gp rfl rfl rfl aH (aaJ (.tmp _ _ rfl) zJ) ?_;refine .p rfl (yG (.tmp _ _ rfl) aH (.tmp _ _ rfl)) ?_;refine .p rfl (zB (.tmp _ _ rfl)) ?_
  
  refine zC (t:=40) rfl (λhg40=>?_) (λhg40=>?_)
  ·have hh40:=hg40;try simp only[aL]at hh40
   refine .gn rfl rfl rfl aH ?_;refine .gn rfl rfl rfl aH ?_;refine .gn rfl rfl rfl aH ?_;refine .p rfl (yE (.tmp _ _ rfl) aH yA) ?_;refine .nil ?_;exact⟨rfl,zO rfl (by first|rfl|(simp[*];done)|simp_all) sX,rfl⟩
  have hh40:=hg40;try simp only[aL]at hh40
  refine .gp rfl rfl rfl aH (zB (.tmp _ _ rfl)) ?_;refine .gs rfl rfl rfl aH (zD C17 (.cons (.tmp _ _ rfl) .nil) (abE x hx _)) ?_;rintro _ _ ⟨rfl,hH⟩;obtain rfl:=hH.symm;refine .gp rfl rfl rfl aH (aeD (.tmp _ _ rfl) zJ) ?_;refine .p rfl (yG (.tmp _ _ rfl) aH (.tmp _ _ rfl)) ?_;refine .nil ?_;exact⟨rfl,zO rfl (by first|rfl|(simp[*];done)|simp_all) sX,rfl⟩
 refine .sub [(44,_),(1,_),(2,_),(3,_),(6,_),(7,_)] sX ?_
 
 refine .cond (.tmp _ _ rfl) (λhc44=>?_) (λhc44=>?_)
 ·try simp only[aL]at hc44
  refine AX ?_;refine AX ?_;refine .p rfl (zB (.tmp _ _ rfl)) ?_;refine .p rfl (zE (.tmp _ _ rfl)) ?_;refine .nil ?_;iterate 3 refine AX ?_
  
  refine AX ?_;exact⟨rfl,rfl⟩
 try simp only[aL]at hc44
 have hs6:zY s≠6:=by rw[cT]at hc44;exact of_decide_eq_false hc44.1
 have hkx:yZ x<3:=by rw[cT]at hc44;have:=of_decide_eq_false hc44.2;omega
 iterate 3 refine AX ?_
 refine AX ?_;refine .p rfl (zB (.tmp _ _ rfl)) ?_;refine .s rfl (zD C11 (.cons (.tmp _ _ rfl) .nil) (aeX c hc _)) ?_;rintro _ _ ⟨⟨l,hlm,rfl⟩,hH⟩;obtain rfl:=hH.symm;have hk:=ajK l hlm;have hs2:=ajX l hlm;have hnl:=bgL hk [s] (abK x);have hml:=zN;have hmi:=hk.2.2.1;have hlaw:=bjM l s hs6 x;have h70:decide ((yV l [s] (abK x)).2=(yV l [s] (abK x+9223372036854775808)).2)=true:=aQ hlaw.1;have hsm:∀q,q∈[s]→q.items.length≤1000:=adT hq;have hab:=alB x;have hax:abK x+9223372036854775808<18446744073709551616:=by unfold abK;omega
 refine .p rfl (zB (.tmp _ _ rfl)) ?_;refine .p rfl (yB (.tmp _ _ rfl) rfl) ?_;refine .p rfl (yB (.tmp _ _ rfl) rfl) ?_;refine .s rfl (acD zr32) ?_;rintro _ _ ⟨b10,hb10,rfl,hH⟩;obtain rfl:=hH.symm;refine .s rfl (acD zr34) ?_;rintro _ _ ⟨b11,hb11,rfl,hH⟩;obtain rfl:=hH.symm;have hn10_11:=Heap.ne_of (by first|assumption|exact(by assumption:Heap.le _ _).objs _ _ aB|exact oS _ _ _|exact(oN _ _ aB).trans (oS _ _ _)|exact(oN _ _ aB).trans ((oN _ _ aB).trans (oS _ _ _))|exact(oN _ _ aB).trans aB) hb11;refine .s0 (zM Z32 (.tmp _ _ rfl) (.tmp _ _ rfl) rfl rfl (.inr ⟨_,rfl⟩) (by first|assumption|exact(by assumption:Heap.le _ _).objs _ _ aB|exact oS _ _ _|exact(oN _ _ aB).trans (oS _ _ _)|exact(oN _ _ aB).trans ((oN _ _ aB).trans (oS _ _ _))|exact(oN _ _ aB).trans aB) (lB rfl)) ?_;rintro _ _ ⟨rfl,hH⟩;obtain rfl:=hH.symm;try first|rw[sS]|rw[sU aB]
 refine .s0 (zM Z34 (.tmp _ _ rfl) (.tmp _ _ rfl) rfl rfl (.inr ⟨_,rfl⟩) (by first|assumption|exact(by assumption:Heap.le _ _).objs _ _ aB|exact oS _ _ _|exact(oN _ _ aB).trans (oS _ _ _)|exact(oN _ _ aB).trans ((oN _ _ aB).trans (oS _ _ _))|exact(oN _ _ aB).trans aB) (lB rfl)) ?_;rintro _ _ ⟨rfl,hH⟩;obtain rfl:=hH.symm;try first|rw[sS]|rw[sU aB]
 refine .nil ?_;refine AX ?_;refine .frz (t:=11) rfl (by first|exact hb11|exact fS hb11 _) ?_;refine .frz (t:=10) rfl (by first|exact hb10|exact fS hb10 _) ?_;refine AX ?_;refine AX ?_;first|(refine .p rfl (yJ G24 Z24 (.tmp _ _ rfl) (lB rfl)) ?_)|(refine .s rfl (zZ G24 Z24 (.tmp _ _ rfl) (by first|assumption|exact(by assumption:Heap.le _ _).objs _ _ aB|exact oS _ _ _|exact(oN _ _ aB).trans (oS _ _ _)|exact(oN _ _ aB).trans ((oN _ _ aB).trans (oS _ _ _))|exact(oN _ _ aB).trans aB) (lB rfl)) ?_;rintro _ _ ⟨rfl,hH⟩;obtain rfl:=hH.symm)
 refine .p rfl (zB (.tmp _ _ rfl)) ?_;refine .p rfl (aeK (.tmp _ _ rfl) (yT 9223372036854775808) (by first|assumption|omega)) ?_;first|(refine .p rfl (yJ G32 Z32 (.tmp _ _ rfl) (lB rfl)) ?_)|(refine .s rfl (zZ G32 Z32 (.tmp _ _ rfl) (by first|assumption|exact(by assumption:Heap.le _ _).objs _ _ aB|exact oS _ _ _|exact(oN _ _ aB).trans (oS _ _ _)|exact(oN _ _ aB).trans ((oN _ _ aB).trans (oS _ _ _))|exact(oN _ _ aB).trans aB) (lB rfl)) ?_;rintro _ _ ⟨rfl,hH⟩;obtain rfl:=hH.symm)
 refine .s rfl (zD C12 (.cons (.tmp _ _ rfl) (.cons (.tmp _ _ rfl) (.cons (.tmp _ _ rfl) .nil))) (abC [s] tp hsm (abK x) hab l hk hs2 _)) ?_;rintro _ _ ⟨rfl,hH⟩;obtain rfl:=hH.symm;refine .p rfl (zB (.tmp _ _ rfl)) ?_;refine .p rfl (yB (.tmp _ _ rfl) rfl) ?_;refine .p rfl (yB (.tmp _ _ rfl) rfl) ?_;refine .p rfl (zE (.tmp _ _ rfl)) ?_;refine .p rfl (zE (.tmp _ _ rfl)) ?_;refine .nil ?_;iterate 2 refine AX ?_
 refine AX ?_;first|(refine .p rfl (yJ G24 Z24 (.tmp _ _ rfl) (lB rfl)) ?_)|(refine .s rfl (zZ G24 Z24 (.tmp _ _ rfl) (by first|assumption|exact(by assumption:Heap.le _ _).objs _ _ aB|exact oS _ _ _|exact(oN _ _ aB).trans (oS _ _ _)|exact(oN _ _ aB).trans ((oN _ _ aB).trans (oS _ _ _))|exact(oN _ _ aB).trans aB) (lB rfl)) ?_;rintro _ _ ⟨rfl,hH⟩;obtain rfl:=hH.symm)
 refine .p rfl (zB (.tmp _ _ rfl)) ?_;refine .p rfl (aeK (.tmp _ _ rfl) (yT 9223372036854775808) (by first|assumption|omega)) ?_;refine .p rfl (aaS (.tmp _ _ rfl) (yT 9223372036854775808) (by first|assumption|omega)) ?_;first|(refine .p rfl (yJ G32 Z32 (.tmp _ _ rfl) (lB rfl)) ?_)|(refine .s rfl (zZ G32 Z32 (.tmp _ _ rfl) (by first|assumption|exact(by assumption:Heap.le _ _).objs _ _ aB|exact oS _ _ _|exact(oN _ _ aB).trans (oS _ _ _)|exact(oN _ _ aB).trans ((oN _ _ aB).trans (oS _ _ _))|exact(oN _ _ aB).trans aB) (lB rfl)) ?_;rintro _ _ ⟨rfl,hH⟩;obtain rfl:=hH.symm)
 refine .s rfl (zD C12 (.cons (.tmp _ _ rfl) (.cons (.tmp _ _ rfl) (.cons (.tmp _ _ rfl) .nil))) (abC [s] tp hsm (abK x+9223372036854775808) hax l hk hs2 _)) ?_;rintro _ _ ⟨rfl,hH⟩;obtain rfl:=hH.symm;refine .p rfl (zB (.tmp _ _ rfl)) ?_;refine .p rfl (yB (.tmp _ _ rfl) rfl) ?_;refine .p rfl (yB (.tmp _ _ rfl) rfl) ?_;refine .p rfl (zE (.tmp _ _ rfl)) ?_;refine .p rfl (zE (.tmp _ _ rfl)) ?_;refine .nil ?_;iterate 2 refine AX ?_
 refine AX ?_;refine .p rfl (zB (.tmp _ _ rfl)) ?_;refine .p rfl (zB (.tmp _ _ rfl)) ?_;refine .p rfl (aaJ (.tmp _ _ rfl) (.tmp _ _ rfl)) ?_;refine .p rfl (zB (.tmp _ _ rfl)) ?_;refine .gp rfl rfl rfl aH (zB (.tmp _ _ rfl)) ?_;refine .gp rfl rfl rfl aH (zB (.tmp _ _ rfl)) ?_;refine .gp rfl rfl rfl aH (abM (.tmp _ _ rfl) (.tmp _ _ rfl)) ?_;refine .gp rfl rfl rfl aH (zB (.tmp _ _ rfl)) ?_
 
 refine zC (t:=75) rfl (λhg75=>?_) (λhg75=>?_)
 ·have hh75:=hg75;try simp only[aL]at hh75
  refine .gn rfl rfl rfl aH ?_;refine .gn rfl rfl rfl aH ?_;refine .gn rfl rfl rfl aH ?_;refine .gn rfl rfl rfl aH ?_;refine .gn rfl rfl rfl aH ?_;refine .gn rfl rfl rfl aH ?_;refine .gp rfl rfl rfl aH (yE (.tmp _ _ rfl) aH yA) ?_;refine .p rfl (yE (.tmp _ _ rfl) aH (.tmp _ _ rfl)) ?_;refine .p rfl (zE (.tmp _ _ rfl)) ?_;refine .nil ?_;iterate 2 refine AX ?_
  
  refine AX ?_;exact⟨rfl,rfl⟩
 have hh75:=hg75;try simp only[aL]at hh75
 refine .gp rfl rfl rfl aH (zB (.tmp _ _ rfl)) ?_;first|(refine .gp rfl rfl rfl aH (zA U32 rfl Z9 (.tmp _ _ rfl)) ?_)|(refine .gp rfl rfl rfl aH (zG U32 rfl Z9 (.tmp _ _ rfl)) ?_)
 first|(refine .gp rfl rfl rfl aH (zX G9 (.tmp _ _ rfl)) ?_)|(refine .gs rfl rfl rfl aH (zP G9 (.tmp _ _ rfl) (by first|assumption|exact(by assumption:Heap.le _ _).objs _ _ aB|exact oS _ _ _|exact(oN _ _ aB).trans (oS _ _ _)|exact(oN _ _ aB).trans ((oN _ _ aB).trans (oS _ _ _))|exact(oN _ _ aB).trans aB) rfl) ?_;rintro _ _ ⟨rfl,hH⟩;obtain rfl:=hH.symm)
 refine .gp rfl rfl rfl aH (zB (.tmp _ _ rfl)) ?_;refine .gp rfl rfl rfl aH (zQ (.tmp _ _ rfl) (.tmp _ _ rfl) aA) ?_;refine .gp rfl rfl rfl aH (abM (.tmp _ _ rfl) (.tmp _ _ rfl)) ?_;refine .gp rfl rfl rfl aH (yG (.tmp _ _ rfl) aH (.tmp _ _ rfl)) ?_;refine .p rfl (yE (.tmp _ _ rfl) aH (.tmp _ _ rfl)) ?_;refine .p rfl (zE (.tmp _ _ rfl)) ?_;refine .nil ?_;iterate 2 refine AX ?_
 
 refine AX ?_;refine⟨congrArg AV.bool (aQ ?_),rfl⟩;rcases hlaw.2 with h|h
 ·exact absurd h hh75
 exact h
theorem biD(p:List SecN)(tp:Tail)(x:Nat)(hx:x<18446744073709551616)(c:Int)(hc: -9223372036854775808≤c∧c≤9223372036854775807):Fn 5 [.agg [adV p tp],.int .u64 (x:Int),.int .i64 c] (.bool true):=by
 intro H;by_cases hq:okP p=true
 ·by_cases hlen:p.length=1
  ·obtain⟨s,rfl⟩:=List.length_eq_one_iff.1 hlen;exact boD s tp hq x hx c hc H
  exact boE p tp hq hlen x c H
 exact bsD p tp (by simpa using hq) x c H
theorem bsH(a b:SecN)(hq:okP [a,b]=false)(x:Nat)(c:Int):Fn 6 [.agg (a.cs .shared),.agg (b.cs .shared),.int .u64 (x:Int),.int .i64 c] (.bool true):=by
 intro H;refine .of_body func6 rfl ntmps6 results6 rfl ?_;refine AX ?_;refine AX ?_;refine .s rfl (qR (.tmp _ _ rfl) (.inr ⟨_,rfl⟩)) ?_;rintro _ _ ⟨rfl,hH⟩;obtain rfl:=hH.symm;refine .s rfl (qR (.tmp _ _ rfl) (.inr ⟨_,rfl⟩)) ?_;rintro _ _ ⟨rfl,hH⟩;obtain rfl:=hH.symm;refine .p rfl (zE yA) ?_;refine .nil ?_;iterate 2 refine AX ?_
 refine AX ?_;refine .s rfl (zD C9 .nil (acM _)) ?_;rintro _ _ ⟨rfl,hH⟩;obtain rfl:=hH.symm;refine .p rfl (zE (.tmp _ _ rfl)) ?_;refine .nil ?_;iterate 2 refine AX ?_
 refine AX ?_;first|(refine .p rfl (yJ G52 Z52 (.tmp _ _ rfl) (lB rfl)) ?_)|(refine .s rfl (zZ G52 Z52 (.tmp _ _ rfl) (by first|assumption|exact(by assumption:Heap.le _ _).objs _ _ aB|exact oS _ _ _|exact(oN _ _ aB).trans (oS _ _ _)|exact(oN _ _ aB).trans ((oN _ _ aB).trans (oS _ _ _))|exact(oN _ _ aB).trans aB) (lB rfl)) ?_;rintro _ _ ⟨rfl,hH⟩;obtain rfl:=hH.symm)
 first|(refine .p rfl (yJ G52 Z52 (.tmp _ _ rfl) (lB rfl)) ?_)|(refine .s rfl (zZ G52 Z52 (.tmp _ _ rfl) (by first|assumption|exact(by assumption:Heap.le _ _).objs _ _ aB|exact oS _ _ _|exact(oN _ _ aB).trans (oS _ _ _)|exact(oN _ _ aB).trans ((oN _ _ aB).trans (oS _ _ _))|exact(oN _ _ aB).trans aB) (lB rfl)) ?_;rintro _ _ ⟨rfl,hH⟩;obtain rfl:=hH.symm)
 refine .s rfl (adK U22 Z52 V52 rfl (.tmp _ _ rfl) (.inr ⟨_,rfl⟩) ⟨rfl,rfl⟩ (.tmp _ _ rfl) (.inr ⟨_,rfl⟩) ⟨rfl,rfl⟩) ?_;rintro _ _ ⟨rfl,hH⟩;obtain rfl:=hH.symm;refine .p rfl (qU zr24 pl24 (.cons (.tmp _ _ rfl) (.inl rfl) .nil) rfl) ?_;refine .s rfl (acD zr24) ?_;rintro _ _ ⟨b10,hb10,rfl,hH⟩;obtain rfl:=hH.symm;refine .s0 (zM Z24 (.tmp _ _ rfl) (.tmp _ _ rfl) rfl rfl (.inr ⟨_,rfl⟩) (by first|assumption|exact(by assumption:Heap.le _ _).objs _ _ aB|exact oS _ _ _|exact(oN _ _ aB).trans (oS _ _ _)|exact(oN _ _ aB).trans ((oN _ _ aB).trans (oS _ _ _))|exact(oN _ _ aB).trans aB) (lB rfl)) ?_;rintro _ _ ⟨rfl,hH⟩;obtain rfl:=hH.symm;try first|rw[sS]|rw[sU aB]
 refine .nil ?_;refine AX ?_;refine .frz (t:=10) rfl (by first|exact hb10|exact fS hb10 _) ?_;refine AX ?_;refine AX ?_;first|(refine .p rfl (yJ G24 Z24 (.tmp _ _ rfl) (lB rfl)) ?_)|(refine .s rfl (zZ G24 Z24 (.tmp _ _ rfl) (by first|assumption|exact(by assumption:Heap.le _ _).objs _ _ aB|exact oS _ _ _|exact(oN _ _ aB).trans (oS _ _ _)|exact(oN _ _ aB).trans ((oN _ _ aB).trans (oS _ _ _))|exact(oN _ _ aB).trans aB) (lB rfl)) ?_;rintro _ _ ⟨rfl,hH⟩;obtain rfl:=hH.symm)
 refine .s rfl (zD C10 (.cons (.tmp _ _ rfl) .nil) (bjW (p:=[a,b]) _ hq _)) ?_;rintro _ _ ⟨rfl,hH⟩;obtain rfl:=hH.symm;refine .p rfl (zB (.tmp _ _ rfl)) ?_;refine .p rfl (yB (.tmp _ _ rfl) rfl) ?_;refine .p rfl (yB (.tmp _ _ rfl) rfl) ?_;refine .p rfl (zE (.tmp _ _ rfl)) ?_;refine .p rfl (zE (.tmp _ _ rfl)) ?_;refine .nil ?_;iterate 3 refine AX ?_
 refine AX ?_;refine .p rfl (zB (.tmp _ _ rfl)) ?_;refine .p rfl (aaB (.tmp _ _ rfl)) ?_;refine .p rfl (zB (.tmp _ _ rfl)) ?_;refine .gp rfl rfl rfl aH (zB (.tmp _ _ rfl)) ?_;refine .gp rfl rfl rfl aH (aaB (.tmp _ _ rfl)) ?_;refine .p rfl (yG (.tmp _ _ rfl) aH (.tmp _ _ rfl)) ?_;refine .p rfl (zB (.tmp _ _ rfl)) ?_;refine .gn rfl rfl rfl aH ?_;refine .gn rfl rfl rfl aH ?_;refine .gn rfl rfl rfl aH ?_;refine .p rfl (yE (.tmp _ _ rfl) aH yA) ?_;refine .nil ?_;refine AX ?_
 
 refine .cond_true (.tmp _ _ rfl) aD ?_;refine AX ?_;refine AX ?_;refine .p rfl (zB (.tmp _ _ rfl)) ?_;refine .p rfl (zE (.tmp _ _ rfl)) ?_;refine .nil ?_;iterate 3 refine AX ?_
 
 refine AX ?_;exact⟨rfl,rfl⟩
theorem boI(a b:SecN)(hq:okP [a,b]=true)(hr:aaN [a,b]=false)(x:Nat)(hx:x<18446744073709551616)(c:Int)(hc: -9223372036854775808≤c∧c≤9223372036854775807):Fn 6 [.agg (a.cs .shared),.agg (b.cs .shared),.int .u64 (x:Int),.int .i64 c] (.bool true):=by
 intro H;have hsm:∀q,q∈[a,b]→q.items.length≤1000:=adT hq;refine .of_body func6 rfl ntmps6 results6 rfl ?_;refine AX ?_;refine AX ?_;refine .s rfl (qR (.tmp _ _ rfl) (.inr ⟨_,rfl⟩)) ?_;rintro _ _ ⟨rfl,hH⟩;obtain rfl:=hH.symm;refine .s rfl (qR (.tmp _ _ rfl) (.inr ⟨_,rfl⟩)) ?_;rintro _ _ ⟨rfl,hH⟩;obtain rfl:=hH.symm;refine .p rfl (zE yA) ?_;refine .nil ?_;iterate 2 refine AX ?_
 refine AX ?_;refine .s rfl (zD C9 .nil (acM _)) ?_;rintro _ _ ⟨rfl,hH⟩;obtain rfl:=hH.symm;refine .p rfl (zE (.tmp _ _ rfl)) ?_;refine .nil ?_;iterate 2 refine AX ?_
 refine AX ?_;first|(refine .p rfl (yJ G52 Z52 (.tmp _ _ rfl) (lB rfl)) ?_)|(refine .s rfl (zZ G52 Z52 (.tmp _ _ rfl) (by first|assumption|exact(by assumption:Heap.le _ _).objs _ _ aB|exact oS _ _ _|exact(oN _ _ aB).trans (oS _ _ _)|exact(oN _ _ aB).trans ((oN _ _ aB).trans (oS _ _ _))|exact(oN _ _ aB).trans aB) (lB rfl)) ?_;rintro _ _ ⟨rfl,hH⟩;obtain rfl:=hH.symm)
 first|(refine .p rfl (yJ G52 Z52 (.tmp _ _ rfl) (lB rfl)) ?_)|(refine .s rfl (zZ G52 Z52 (.tmp _ _ rfl) (by first|assumption|exact(by assumption:Heap.le _ _).objs _ _ aB|exact oS _ _ _|exact(oN _ _ aB).trans (oS _ _ _)|exact(oN _ _ aB).trans ((oN _ _ aB).trans (oS _ _ _))|exact(oN _ _ aB).trans aB) (lB rfl)) ?_;rintro _ _ ⟨rfl,hH⟩;obtain rfl:=hH.symm)
 refine .s rfl (adK U22 Z52 V52 rfl (.tmp _ _ rfl) (.inr ⟨_,rfl⟩) ⟨rfl,rfl⟩ (.tmp _ _ rfl) (.inr ⟨_,rfl⟩) ⟨rfl,rfl⟩) ?_;rintro _ _ ⟨rfl,hH⟩;obtain rfl:=hH.symm;refine .p rfl (qU zr24 pl24 (.cons (.tmp _ _ rfl) (.inl rfl) .nil) rfl) ?_;refine .s rfl (acD zr24) ?_;rintro _ _ ⟨b10,hb10,rfl,hH⟩;obtain rfl:=hH.symm;refine .s0 (zM Z24 (.tmp _ _ rfl) (.tmp _ _ rfl) rfl rfl (.inr ⟨_,rfl⟩) (by first|assumption|exact(by assumption:Heap.le _ _).objs _ _ aB|exact oS _ _ _|exact(oN _ _ aB).trans (oS _ _ _)|exact(oN _ _ aB).trans ((oN _ _ aB).trans (oS _ _ _))|exact(oN _ _ aB).trans aB) (lB rfl)) ?_;rintro _ _ ⟨rfl,hH⟩;obtain rfl:=hH.symm;try first|rw[sS]|rw[sU aB]
 refine .nil ?_;refine AX ?_;refine .frz (t:=10) rfl (by first|exact hb10|exact fS hb10 _) ?_;refine AX ?_;refine AX ?_;first|(refine .p rfl (yJ G24 Z24 (.tmp _ _ rfl) (lB rfl)) ?_)|(refine .s rfl (zZ G24 Z24 (.tmp _ _ rfl) (by first|assumption|exact(by assumption:Heap.le _ _).objs _ _ aB|exact oS _ _ _|exact(oN _ _ aB).trans (oS _ _ _)|exact(oN _ _ aB).trans ((oN _ _ aB).trans (oS _ _ _))|exact(oN _ _ aB).trans aB) (lB rfl)) ?_;rintro _ _ ⟨rfl,hH⟩;obtain rfl:=hH.symm)
 refine .s rfl (zD C10 (.cons (.tmp _ _ rfl) .nil) (anU (p:=[a,b]) _ hq _)) ?_;rintro _ _ ⟨rfl,hH⟩;obtain rfl:=hH.symm;refine .p rfl (zB (.tmp _ _ rfl)) ?_;refine .p rfl (yB (.tmp _ _ rfl) rfl) ?_;refine .p rfl (yB (.tmp _ _ rfl) rfl) ?_;refine .p rfl (zE (.tmp _ _ rfl)) ?_;refine .p rfl (zE (.tmp _ _ rfl)) ?_;refine .nil ?_;iterate 3 refine AX ?_
 refine AX ?_;refine .p rfl (zB (.tmp _ _ rfl)) ?_;refine .p rfl (aaB (.tmp _ _ rfl)) ?_;refine .p rfl (zB (.tmp _ _ rfl)) ?_;refine .gp rfl rfl rfl aH (zB (.tmp _ _ rfl)) ?_;refine .gp rfl rfl rfl aH (aaB (.tmp _ _ rfl)) ?_;refine .p rfl (yG (.tmp _ _ rfl) aH (.tmp _ _ rfl)) ?_;refine .p rfl (zB (.tmp _ _ rfl)) ?_;refine .gp rfl rfl rfl aH (zB (.tmp _ _ rfl)) ?_;refine .gs rfl rfl rfl aH (zD C17 (.cons (.tmp _ _ rfl) .nil) (abE x hx _)) ?_;rintro _ _ ⟨rfl,hH⟩;obtain rfl:=hH.symm;refine .gp rfl rfl rfl aH (aeD (.tmp _ _ rfl) zJ) ?_;refine .p rfl (yG (.tmp _ _ rfl) aH (.tmp _ _ rfl)) ?_;refine .nil ?_;refine AX ?_
 
 refine .cond (.tmp _ _ rfl) (λhc41=>?_) (λhc41=>?_)
 ·try simp only[aL]at hc41
  refine AX ?_;refine AX ?_;refine .p rfl (zB (.tmp _ _ rfl)) ?_;refine .p rfl (zE (.tmp _ _ rfl)) ?_;refine .nil ?_;iterate 3 refine AX ?_
  
  refine AX ?_;exact⟨rfl,rfl⟩
 try simp only[aL]at hc41
 have hkx:yZ x<3:=by omega
 iterate 3 refine AX ?_
 refine AX ?_;refine .p rfl (zB (.tmp _ _ rfl)) ?_;refine .s rfl (zD C11 (.cons (.tmp _ _ rfl) .nil) (aeX c hc _)) ?_;rintro _ _ ⟨⟨l,hlm,rfl⟩,hH⟩;obtain rfl:=hH.symm;have hk:=ajK l hlm;have hs2:=ajX l hlm;refine .p rfl (zB (.tmp _ _ rfl)) ?_;refine .p rfl (yB (.tmp _ _ rfl) rfl) ?_;refine .p rfl (yB (.tmp _ _ rfl) rfl) ?_;refine .s rfl (acD zr32) ?_;rintro _ _ ⟨b13,hb13,rfl,hH⟩;obtain rfl:=hH.symm;refine .s rfl (acD zr34) ?_;rintro _ _ ⟨b14,hb14,rfl,hH⟩;obtain rfl:=hH.symm;have hn13_14:=Heap.ne_of (by first|assumption|exact(by assumption:Heap.le _ _).objs _ _ aB|exact oS _ _ _|exact(oN _ _ aB).trans (oS _ _ _)|exact(oN _ _ aB).trans ((oN _ _ aB).trans (oS _ _ _))|exact(oN _ _ aB).trans aB) hb14;refine .s0 (zM Z32 (.tmp _ _ rfl) (.tmp _ _ rfl) rfl rfl (.inr ⟨_,rfl⟩) (by first|assumption|exact(by assumption:Heap.le _ _).objs _ _ aB|exact oS _ _ _|exact(oN _ _ aB).trans (oS _ _ _)|exact(oN _ _ aB).trans ((oN _ _ aB).trans (oS _ _ _))|exact(oN _ _ aB).trans aB) (lB rfl)) ?_;rintro _ _ ⟨rfl,hH⟩;obtain rfl:=hH.symm;try first|rw[sS]|rw[sU aB]
 refine .s0 (zM Z34 (.tmp _ _ rfl) (.tmp _ _ rfl) rfl rfl (.inr ⟨_,rfl⟩) (by first|assumption|exact(by assumption:Heap.le _ _).objs _ _ aB|exact oS _ _ _|exact(oN _ _ aB).trans (oS _ _ _)|exact(oN _ _ aB).trans ((oN _ _ aB).trans (oS _ _ _))|exact(oN _ _ aB).trans aB) (lB rfl)) ?_;rintro _ _ ⟨rfl,hH⟩;obtain rfl:=hH.symm;try first|rw[sS]|rw[sU aB]
 refine .nil ?_;refine AX ?_;refine .frz (t:=14) rfl (by first|exact hb14|exact fS hb14 _) ?_;refine .frz (t:=13) rfl (by first|exact hb13|exact fS hb13 _) ?_;refine AX ?_;refine AX ?_;refine .p rfl (zB (.tmp _ _ rfl)) ?_;refine .s rfl (zD C18 (.cons (.tmp _ _ rfl) .nil) (aeA [a,b] .shared hsm _)) ?_;rintro _ _ ⟨rfl,hH⟩;obtain rfl:=hH.symm;rw[hr];refine .p rfl (zE (.tmp _ _ rfl)) ?_;refine .nil ?_;iterate 2 refine AX ?_
 refine AX ?_;first|(refine .p rfl (yJ G24 Z24 (.tmp _ _ rfl) (lB rfl)) ?_)|(refine .s rfl (zZ G24 Z24 (.tmp _ _ rfl) (by first|assumption|exact(by assumption:Heap.le _ _).objs _ _ aB|exact oS _ _ _|exact(oN _ _ aB).trans (oS _ _ _)|exact(oN _ _ aB).trans ((oN _ _ aB).trans (oS _ _ _))|exact(oN _ _ aB).trans aB) (lB rfl)) ?_;rintro _ _ ⟨rfl,hH⟩;obtain rfl:=hH.symm)
 refine .p rfl (zB (.tmp _ _ rfl)) ?_;first|(refine .p rfl (yJ G32 Z32 (.tmp _ _ rfl) (lB rfl)) ?_)|(refine .s rfl (zZ G32 Z32 (.tmp _ _ rfl) (by first|assumption|exact(by assumption:Heap.le _ _).objs _ _ aB|exact oS _ _ _|exact(oN _ _ aB).trans (oS _ _ _)|exact(oN _ _ aB).trans ((oN _ _ aB).trans (oS _ _ _))|exact(oN _ _ aB).trans aB) (lB rfl)) ?_;rintro _ _ ⟨rfl,hH⟩;obtain rfl:=hH.symm)
 refine .s rfl (zD C12 (.cons (.tmp _ _ rfl) (.cons (.tmp _ _ rfl) (.cons (.tmp _ _ rfl) .nil))) (abC [a,b] _ hsm x hx l hk hs2 _)) ?_;rintro _ _ ⟨rfl,hH⟩;obtain rfl:=hH.symm;rw[bqF l a b x hr];refine .p rfl (zB (.tmp _ _ rfl)) ?_;refine .p rfl (yB (.tmp _ _ rfl) rfl) ?_;refine .p rfl (yB (.tmp _ _ rfl) rfl) ?_;refine .p rfl (zE (.tmp _ _ rfl)) ?_;refine .p rfl (zE (.tmp _ _ rfl)) ?_;refine .nil ?_;iterate 3 refine AX ?_
 refine AX ?_;refine .p rfl (zB (.tmp _ _ rfl)) ?_;refine .p rfl (aaB (.tmp _ _ rfl)) ?_;refine .nil ?_;refine AX ?_
 
 refine .cond_true (.tmp _ _ rfl) aD ?_;refine AX ?_;refine AX ?_;refine .p rfl (zB (.tmp _ _ rfl)) ?_;refine .p rfl (aaJ (.tmp _ _ rfl) zJ) ?_;refine .p rfl (zB (.tmp _ _ rfl)) ?_;refine .gp rfl rfl rfl aH (zB (.tmp _ _ rfl)) ?_;refine .gp rfl rfl rfl aH (abM (.tmp _ _ rfl) (zS rfl)) ?_;refine .p rfl (yE (.tmp _ _ rfl) aH (.tmp _ _ rfl)) ?_;refine .p rfl (zE (.tmp _ _ rfl)) ?_;refine .nil ?_;iterate 3 refine AX ?_
 
 refine AX ?_;exact⟨rfl,rfl⟩
theorem biK(a b:SecN)(hq:okP [a,b]=true)(hr:aaN [a,b]=true)(x:Nat)(hx:x<18446744073709551616)(c:Int)(hc: -9223372036854775808≤c∧c≤9223372036854775807):Fn 6 [.agg (a.cs .shared),.agg (b.cs .shared),.int .u64 (x:Int),.int .i64 c] (.bool true):=by
 intro H;have hsm:∀q,q∈[a,b]→q.items.length≤1000:=adT hq;have hab:=alB x;refine .of_body func6 rfl ntmps6 results6 rfl ?_;refine AX ?_;refine AX ?_;refine .s rfl (qR (.tmp _ _ rfl) (.inr ⟨_,rfl⟩)) ?_;rintro _ _ ⟨rfl,hH⟩;obtain rfl:=hH.symm;refine .s rfl (qR (.tmp _ _ rfl) (.inr ⟨_,rfl⟩)) ?_;rintro _ _ ⟨rfl,hH⟩;obtain rfl:=hH.symm;refine .p rfl (zE yA) ?_;refine .nil ?_;iterate 2 refine AX ?_
 refine AX ?_;refine .s rfl (zD C9 .nil (acM _)) ?_;rintro _ _ ⟨rfl,hH⟩;obtain rfl:=hH.symm;refine .p rfl (zE (.tmp _ _ rfl)) ?_;refine .nil ?_;iterate 2 refine AX ?_
 refine AX ?_;first|(refine .p rfl (yJ G52 Z52 (.tmp _ _ rfl) (lB rfl)) ?_)|(refine .s rfl (zZ G52 Z52 (.tmp _ _ rfl) (by first|assumption|exact(by assumption:Heap.le _ _).objs _ _ aB|exact oS _ _ _|exact(oN _ _ aB).trans (oS _ _ _)|exact(oN _ _ aB).trans ((oN _ _ aB).trans (oS _ _ _))|exact(oN _ _ aB).trans aB) (lB rfl)) ?_;rintro _ _ ⟨rfl,hH⟩;obtain rfl:=hH.symm)
 first|(refine .p rfl (yJ G52 Z52 (.tmp _ _ rfl) (lB rfl)) ?_)|(refine .s rfl (zZ G52 Z52 (.tmp _ _ rfl) (by first|assumption|exact(by assumption:Heap.le _ _).objs _ _ aB|exact oS _ _ _|exact(oN _ _ aB).trans (oS _ _ _)|exact(oN _ _ aB).trans ((oN _ _ aB).trans (oS _ _ _))|exact(oN _ _ aB).trans aB) (lB rfl)) ?_;rintro _ _ ⟨rfl,hH⟩;obtain rfl:=hH.symm)
 refine .s rfl (adK U22 Z52 V52 rfl (.tmp _ _ rfl) (.inr ⟨_,rfl⟩) ⟨rfl,rfl⟩ (.tmp _ _ rfl) (.inr ⟨_,rfl⟩) ⟨rfl,rfl⟩) ?_;rintro _ _ ⟨rfl,hH⟩;obtain rfl:=hH.symm;refine .p rfl (qU zr24 pl24 (.cons (.tmp _ _ rfl) (.inl rfl) .nil) rfl) ?_;refine .s rfl (acD zr24) ?_;rintro _ _ ⟨b10,hb10,rfl,hH⟩;obtain rfl:=hH.symm;refine .s0 (zM Z24 (.tmp _ _ rfl) (.tmp _ _ rfl) rfl rfl (.inr ⟨_,rfl⟩) (by first|assumption|exact(by assumption:Heap.le _ _).objs _ _ aB|exact oS _ _ _|exact(oN _ _ aB).trans (oS _ _ _)|exact(oN _ _ aB).trans ((oN _ _ aB).trans (oS _ _ _))|exact(oN _ _ aB).trans aB) (lB rfl)) ?_;rintro _ _ ⟨rfl,hH⟩;obtain rfl:=hH.symm;try first|rw[sS]|rw[sU aB]
 refine .nil ?_;refine AX ?_;refine .frz (t:=10) rfl (by first|exact hb10|exact fS hb10 _) ?_;refine AX ?_;refine AX ?_;first|(refine .p rfl (yJ G24 Z24 (.tmp _ _ rfl) (lB rfl)) ?_)|(refine .s rfl (zZ G24 Z24 (.tmp _ _ rfl) (by first|assumption|exact(by assumption:Heap.le _ _).objs _ _ aB|exact oS _ _ _|exact(oN _ _ aB).trans (oS _ _ _)|exact(oN _ _ aB).trans ((oN _ _ aB).trans (oS _ _ _))|exact(oN _ _ aB).trans aB) (lB rfl)) ?_;rintro _ _ ⟨rfl,hH⟩;obtain rfl:=hH.symm)
 refine .s rfl (zD C10 (.cons (.tmp _ _ rfl) .nil) (anU (p:=[a,b]) _ hq _)) ?_;rintro _ _ ⟨rfl,hH⟩;obtain rfl:=hH.symm;refine .p rfl (zB (.tmp _ _ rfl)) ?_;refine .p rfl (yB (.tmp _ _ rfl) rfl) ?_;refine .p rfl (yB (.tmp _ _ rfl) rfl) ?_;refine .p rfl (zE (.tmp _ _ rfl)) ?_;refine .p rfl (zE (.tmp _ _ rfl)) ?_;refine .nil ?_;iterate 3 refine AX ?_
 refine AX ?_;refine .p rfl (zB (.tmp _ _ rfl)) ?_;refine .p rfl (aaB (.tmp _ _ rfl)) ?_;refine .p rfl (zB (.tmp _ _ rfl)) ?_;refine .gp rfl rfl rfl aH (zB (.tmp _ _ rfl)) ?_;refine .gp rfl rfl rfl aH (aaB (.tmp _ _ rfl)) ?_;refine .p rfl (yG (.tmp _ _ rfl) aH (.tmp _ _ rfl)) ?_;refine .p rfl (zB (.tmp _ _ rfl)) ?_;refine .gp rfl rfl rfl aH (zB (.tmp _ _ rfl)) ?_;refine .gs rfl rfl rfl aH (zD C17 (.cons (.tmp _ _ rfl) .nil) (abE x hx _)) ?_;rintro _ _ ⟨rfl,hH⟩;obtain rfl:=hH.symm;refine .gp rfl rfl rfl aH (aeD (.tmp _ _ rfl) zJ) ?_;refine .p rfl (yG (.tmp _ _ rfl) aH (.tmp _ _ rfl)) ?_;refine .nil ?_;refine AX ?_
 
 refine .cond (.tmp _ _ rfl) (λhc41=>?_) (λhc41=>?_)
 ·try simp only[aL]at hc41
  refine AX ?_;refine AX ?_;refine .p rfl (zB (.tmp _ _ rfl)) ?_;refine .p rfl (zE (.tmp _ _ rfl)) ?_;refine .nil ?_;iterate 3 refine AX ?_
  
  refine AX ?_;exact⟨rfl,rfl⟩
 try simp only[aL]at hc41
 have hkx:yZ x<3:=by omega
 iterate 3 refine AX ?_
 refine AX ?_;refine .p rfl (zB (.tmp _ _ rfl)) ?_;refine .s rfl (zD C11 (.cons (.tmp _ _ rfl) .nil) (aeX c hc _)) ?_;rintro _ _ ⟨⟨l,hlm,rfl⟩,hH⟩;obtain rfl:=hH.symm;have hk:=ajK l hlm;have hs2:=ajX l hlm;refine .p rfl (zB (.tmp _ _ rfl)) ?_;refine .p rfl (yB (.tmp _ _ rfl) rfl) ?_;refine .p rfl (yB (.tmp _ _ rfl) rfl) ?_;refine .s rfl (acD zr32) ?_;rintro _ _ ⟨b13,hb13,rfl,hH⟩;obtain rfl:=hH.symm;refine .s rfl (acD zr34) ?_;rintro _ _ ⟨b14,hb14,rfl,hH⟩;obtain rfl:=hH.symm;have hn13_14:=Heap.ne_of (by first|assumption|exact(by assumption:Heap.le _ _).objs _ _ aB|exact oS _ _ _|exact(oN _ _ aB).trans (oS _ _ _)|exact(oN _ _ aB).trans ((oN _ _ aB).trans (oS _ _ _))|exact(oN _ _ aB).trans aB) hb14;refine .s0 (zM Z32 (.tmp _ _ rfl) (.tmp _ _ rfl) rfl rfl (.inr ⟨_,rfl⟩) (by first|assumption|exact(by assumption:Heap.le _ _).objs _ _ aB|exact oS _ _ _|exact(oN _ _ aB).trans (oS _ _ _)|exact(oN _ _ aB).trans ((oN _ _ aB).trans (oS _ _ _))|exact(oN _ _ aB).trans aB) (lB rfl)) ?_;rintro _ _ ⟨rfl,hH⟩;obtain rfl:=hH.symm;try first|rw[sS]|rw[sU aB]
 refine .s0 (zM Z34 (.tmp _ _ rfl) (.tmp _ _ rfl) rfl rfl (.inr ⟨_,rfl⟩) (by first|assumption|exact(by assumption:Heap.le _ _).objs _ _ aB|exact oS _ _ _|exact(oN _ _ aB).trans (oS _ _ _)|exact(oN _ _ aB).trans ((oN _ _ aB).trans (oS _ _ _))|exact(oN _ _ aB).trans aB) (lB rfl)) ?_;rintro _ _ ⟨rfl,hH⟩;obtain rfl:=hH.symm;try first|rw[sS]|rw[sU aB]
 refine .nil ?_;refine AX ?_;refine .frz (t:=14) rfl (by first|exact hb14|exact fS hb14 _) ?_;refine .frz (t:=13) rfl (by first|exact hb13|exact fS hb13 _) ?_;refine AX ?_;refine AX ?_;refine .p rfl (zB (.tmp _ _ rfl)) ?_;refine .s rfl (zD C18 (.cons (.tmp _ _ rfl) .nil) (aeA [a,b] .shared hsm _)) ?_;rintro _ _ ⟨rfl,hH⟩;obtain rfl:=hH.symm;rw[hr];refine .p rfl (zE (.tmp _ _ rfl)) ?_;refine .nil ?_;iterate 2 refine AX ?_
 refine AX ?_;first|(refine .p rfl (yJ G24 Z24 (.tmp _ _ rfl) (lB rfl)) ?_)|(refine .s rfl (zZ G24 Z24 (.tmp _ _ rfl) (by first|assumption|exact(by assumption:Heap.le _ _).objs _ _ aB|exact oS _ _ _|exact(oN _ _ aB).trans (oS _ _ _)|exact(oN _ _ aB).trans ((oN _ _ aB).trans (oS _ _ _))|exact(oN _ _ aB).trans aB) (lB rfl)) ?_;rintro _ _ ⟨rfl,hH⟩;obtain rfl:=hH.symm)
 refine .p rfl (zB (.tmp _ _ rfl)) ?_;first|(refine .p rfl (yJ G32 Z32 (.tmp _ _ rfl) (lB rfl)) ?_)|(refine .s rfl (zZ G32 Z32 (.tmp _ _ rfl) (by first|assumption|exact(by assumption:Heap.le _ _).objs _ _ aB|exact oS _ _ _|exact(oN _ _ aB).trans (oS _ _ _)|exact(oN _ _ aB).trans ((oN _ _ aB).trans (oS _ _ _))|exact(oN _ _ aB).trans aB) (lB rfl)) ?_;rintro _ _ ⟨rfl,hH⟩;obtain rfl:=hH.symm)
 refine .s rfl (zD C12 (.cons (.tmp _ _ rfl) (.cons (.tmp _ _ rfl) (.cons (.tmp _ _ rfl) .nil))) (abC [a,b] _ hsm x hx l hk hs2 _)) ?_;rintro _ _ ⟨rfl,hH⟩;obtain rfl:=hH.symm;refine .p rfl (zB (.tmp _ _ rfl)) ?_;refine .p rfl (yB (.tmp _ _ rfl) rfl) ?_;refine .p rfl (yB (.tmp _ _ rfl) rfl) ?_;refine .p rfl (zE (.tmp _ _ rfl)) ?_;refine .p rfl (zE (.tmp _ _ rfl)) ?_;refine .nil ?_;iterate 3 refine AX ?_
 refine AX ?_;refine .p rfl (zB (.tmp _ _ rfl)) ?_;refine .p rfl (aaB (.tmp _ _ rfl)) ?_;refine .nil ?_;refine AX ?_
 
 refine .cond_false (.tmp _ _ rfl) aD ?_;iterate 3 refine AX ?_
 refine AX ?_;first|(refine .p rfl (yJ G52 Z52 (.tmp _ _ rfl) (lB rfl)) ?_)|(refine .s rfl (zZ G52 Z52 (.tmp _ _ rfl) (by first|assumption|exact(by assumption:Heap.le _ _).objs _ _ aB|exact oS _ _ _|exact(oN _ _ aB).trans (oS _ _ _)|exact(oN _ _ aB).trans ((oN _ _ aB).trans (oS _ _ _))|exact(oN _ _ aB).trans aB) (lB rfl)) ?_;rintro _ _ ⟨rfl,hH⟩;obtain rfl:=hH.symm)
 refine .s rfl (yP U22 Z52 V52 rfl (.tmp _ _ rfl) (.inr ⟨_,rfl⟩) ⟨rfl,rfl⟩) ?_;rintro _ _ ⟨rfl,hH⟩;obtain rfl:=hH.symm;refine .p rfl (qU zr24 pl24 (.cons (.tmp _ _ rfl) (.inl rfl) .nil) rfl) ?_;refine .s rfl (acD zr24) ?_;rintro _ _ ⟨b18,hb18,rfl,hH⟩;obtain rfl:=hH.symm;refine .s0 (zM Z24 (.tmp _ _ rfl) (.tmp _ _ rfl) rfl rfl (.inr ⟨_,rfl⟩) (by first|assumption|exact(by assumption:Heap.le _ _).objs _ _ aB|exact oS _ _ _|exact(oN _ _ aB).trans (oS _ _ _)|exact(oN _ _ aB).trans ((oN _ _ aB).trans (oS _ _ _))|exact(oN _ _ aB).trans aB) (lB rfl)) ?_;rintro _ _ ⟨rfl,hH⟩;obtain rfl:=hH.symm;try first|rw[sS]|rw[sU aB]
 refine .nil ?_;iterate 3 refine AX ?_
 refine AX ?_;refine .p rfl (zB (.tmp _ _ rfl)) ?_;refine .p rfl (aaZ (.tmp _ _ rfl) (yT 9223372036854775808)) ?_;refine .nil ?_;refine AX ?_
 
 refine .cond (.tmp _ _ rfl) (λhc69=>?_) (λhc69=>?_)
 ·try simp only[aL]at hc69
  have hlaw:=axR l a b x hx hr hkx b (by rw[aK]);have hsd:∀q,q∈[b]→q.items.length≤1000:=λq h=>hsm q (by rw[dG.1 h];simp);have k82:decide ((yV l [a,b] x).2=0)=true:=aQ hlaw.2;have k90:decide ((yV l [a,b] x).1=(yV l [a,b] x).1)=true:=aQ rfl;refine AX ?_;first|(refine .p rfl (yJ G52 Z52 (.tmp _ _ rfl) (lB rfl)) ?_)|(refine .s rfl (zZ G52 Z52 (.tmp _ _ rfl) (by first|assumption|exact(by assumption:Heap.le _ _).objs _ _ aB|exact oS _ _ _|exact(oN _ _ aB).trans (oS _ _ _)|exact(oN _ _ aB).trans ((oN _ _ aB).trans (oS _ _ _))|exact(oN _ _ aB).trans aB) (lB rfl)) ?_;rintro _ _ ⟨rfl,hH⟩;obtain rfl:=hH.symm)
  refine .s rfl (yP U22 Z52 V52 rfl (.tmp _ _ rfl) (.inr ⟨_,rfl⟩) ⟨rfl,rfl⟩) ?_;rintro _ _ ⟨rfl,hH⟩;obtain rfl:=hH.symm;refine .p rfl (qU zr24 pl24 (.cons (.tmp _ _ rfl) (.inl rfl) .nil) rfl) ?_;refine .s0 (zM Z24 (.tmp _ _ rfl) (.tmp _ _ rfl) rfl rfl (.inr ⟨_,rfl⟩) (by first|assumption|exact(by assumption:Heap.le _ _).objs _ _ aB|exact oS _ _ _|exact(oN _ _ aB).trans (oS _ _ _)|exact(oN _ _ aB).trans ((oN _ _ aB).trans (oS _ _ _))|exact(oN _ _ aB).trans aB) (lB rfl)) ?_;rintro _ _ ⟨rfl,hH⟩;obtain rfl:=hH.symm;try first|rw[sS]|rw[sU aB]
  refine .nil ?_;iterate 2 refine AX ?_
  refine AX ?_;first|(refine .p rfl (yJ G24 Z24 (.tmp _ _ rfl) (lB rfl)) ?_)|(refine .s rfl (zZ G24 Z24 (.tmp _ _ rfl) (by first|assumption|exact(by assumption:Heap.le _ _).objs _ _ aB|exact oS _ _ _|exact(oN _ _ aB).trans (oS _ _ _)|exact(oN _ _ aB).trans ((oN _ _ aB).trans (oS _ _ _))|exact(oN _ _ aB).trans aB) (lB rfl)) ?_;rintro _ _ ⟨rfl,hH⟩;obtain rfl:=hH.symm)
  refine .p rfl (zB (.tmp _ _ rfl)) ?_;refine .p rfl (aeK (.tmp _ _ rfl) (yT 9223372036854775808) (by first|assumption|omega)) ?_;first|(refine .p rfl (yJ G32 Z32 (.tmp _ _ rfl) (lB rfl)) ?_)|(refine .s rfl (zZ G32 Z32 (.tmp _ _ rfl) (by first|assumption|exact(by assumption:Heap.le _ _).objs _ _ aB|exact oS _ _ _|exact(oN _ _ aB).trans (oS _ _ _)|exact(oN _ _ aB).trans ((oN _ _ aB).trans (oS _ _ _))|exact(oN _ _ aB).trans aB) (lB rfl)) ?_;rintro _ _ ⟨rfl,hH⟩;obtain rfl:=hH.symm)
  refine .s rfl (zD C12 (.cons (.tmp _ _ rfl) (.cons (.tmp _ _ rfl) (.cons (.tmp _ _ rfl) .nil))) (abC [_] _ hsd (abK x) hab l hk hs2 _)) ?_;rintro _ _ ⟨rfl,hH⟩;obtain rfl:=hH.symm;rw[←hlaw.1];refine .p rfl (zB (.tmp _ _ rfl)) ?_;refine .p rfl (yB (.tmp _ _ rfl) rfl) ?_;refine .p rfl (yB (.tmp _ _ rfl) rfl) ?_;refine .p rfl (zE (.tmp _ _ rfl)) ?_;refine .p rfl (zE (.tmp _ _ rfl)) ?_;refine .nil ?_;iterate 2 refine AX ?_
  refine AX ?_;refine .p rfl (zB (.tmp _ _ rfl)) ?_;refine .p rfl (aaJ (.tmp _ _ rfl) zJ) ?_;refine .p rfl (zB (.tmp _ _ rfl)) ?_;refine .gp rfl rfl rfl aH (zB (.tmp _ _ rfl)) ?_;refine .gp rfl rfl rfl aH (aaJ (.tmp _ _ rfl) zJ) ?_;refine .p rfl (yE (.tmp _ _ rfl) aH (.tmp _ _ rfl)) ?_;refine .p rfl (zB (.tmp _ _ rfl)) ?_;refine .gp rfl rfl rfl aH (zB (.tmp _ _ rfl)) ?_;refine .gp rfl rfl rfl aH (zB (.tmp _ _ rfl)) ?_;refine .gp rfl rfl rfl aH (abM (.tmp _ _ rfl) (.tmp _ _ rfl)) ?_;refine .p rfl (yE (.tmp _ _ rfl) aH (.tmp _ _ rfl)) ?_;refine .p rfl (zE (.tmp _ _ rfl)) ?_;refine .nil ?_;refine AX ?_;refine .dropb (by first|exact hb18|exact fS hb18 _) ?_;refine AX ?_
  
  refine AX ?_;exact⟨congrArg AV.bool k90,rfl⟩
 try simp only[aL]at hc69
 have hlaw:=axR l a b x hx hr hkx a (by rw[aJ]);have hsd:∀q,q∈[a]→q.items.length≤1000:=λq h=>hsm q (by rw[dG.1 h];simp);have k82:decide ((yV l [a,b] x).2=0)=true:=aQ hlaw.2;have k90:decide ((yV l [a,b] x).1=(yV l [a,b] x).1)=true:=aQ rfl;iterate 3 refine AX ?_
 refine AX ?_;first|(refine .p rfl (yJ G24 Z24 (.tmp _ _ rfl) (lB rfl)) ?_)|(refine .s rfl (zZ G24 Z24 (.tmp _ _ rfl) (by first|assumption|exact(by assumption:Heap.le _ _).objs _ _ aB|exact oS _ _ _|exact(oN _ _ aB).trans (oS _ _ _)|exact(oN _ _ aB).trans ((oN _ _ aB).trans (oS _ _ _))|exact(oN _ _ aB).trans aB) (lB rfl)) ?_;rintro _ _ ⟨rfl,hH⟩;obtain rfl:=hH.symm)
 refine .p rfl (zB (.tmp _ _ rfl)) ?_;refine .p rfl (aeK (.tmp _ _ rfl) (yT 9223372036854775808) (by first|assumption|omega)) ?_;first|(refine .p rfl (yJ G32 Z32 (.tmp _ _ rfl) (lB rfl)) ?_)|(refine .s rfl (zZ G32 Z32 (.tmp _ _ rfl) (by first|assumption|exact(by assumption:Heap.le _ _).objs _ _ aB|exact oS _ _ _|exact(oN _ _ aB).trans (oS _ _ _)|exact(oN _ _ aB).trans ((oN _ _ aB).trans (oS _ _ _))|exact(oN _ _ aB).trans aB) (lB rfl)) ?_;rintro _ _ ⟨rfl,hH⟩;obtain rfl:=hH.symm)
 refine .s rfl (zD C12 (.cons (.tmp _ _ rfl) (.cons (.tmp _ _ rfl) (.cons (.tmp _ _ rfl) .nil))) (abC [_] _ hsd (abK x) hab l hk hs2 _)) ?_;rintro _ _ ⟨rfl,hH⟩;obtain rfl:=hH.symm;rw[←hlaw.1];refine .p rfl (zB (.tmp _ _ rfl)) ?_;refine .p rfl (yB (.tmp _ _ rfl) rfl) ?_;refine .p rfl (yB (.tmp _ _ rfl) rfl) ?_;refine .p rfl (zE (.tmp _ _ rfl)) ?_;refine .p rfl (zE (.tmp _ _ rfl)) ?_;refine .nil ?_;iterate 2 refine AX ?_
 refine AX ?_;refine .p rfl (zB (.tmp _ _ rfl)) ?_;refine .p rfl (aaJ (.tmp _ _ rfl) zJ) ?_;refine .p rfl (zB (.tmp _ _ rfl)) ?_;refine .gp rfl rfl rfl aH (zB (.tmp _ _ rfl)) ?_;refine .gp rfl rfl rfl aH (aaJ (.tmp _ _ rfl) zJ) ?_;refine .p rfl (yE (.tmp _ _ rfl) aH (.tmp _ _ rfl)) ?_;refine .p rfl (zB (.tmp _ _ rfl)) ?_;refine .gp rfl rfl rfl aH (zB (.tmp _ _ rfl)) ?_;refine .gp rfl rfl rfl aH (zB (.tmp _ _ rfl)) ?_;refine .gp rfl rfl rfl aH (abM (.tmp _ _ rfl) (.tmp _ _ rfl)) ?_;refine .p rfl (yE (.tmp _ _ rfl) aH (.tmp _ _ rfl)) ?_;refine .p rfl (zE (.tmp _ _ rfl)) ?_;refine .nil ?_;refine AX ?_;refine .dropb (by first|exact hb18|exact fS hb18 _) ?_;refine AX ?_
 
 refine AX ?_;exact⟨congrArg AV.bool k90,rfl⟩
theorem biH(a b:SecN)(x:Nat)(hx:x<18446744073709551616)(c:Int)(hc: -9223372036854775808≤c∧c≤9223372036854775807):Fn 6 [.agg (a.cs .shared),.agg (b.cs .shared),.int .u64 (x:Int),.int .i64 c] (.bool true):=by
 intro H;by_cases hq:okP [a,b]=true
 ·by_cases hr:aaN [a,b]=true
  ·exact biK a b hq hr x hx c hc H
  exact boI a b hq (by simpa using hr) x hx c hc H
 exact bsH a b (by simpa using hq) x c H
end
end Go.Proofs.YteedncdcbgplfaaGreatDoor
