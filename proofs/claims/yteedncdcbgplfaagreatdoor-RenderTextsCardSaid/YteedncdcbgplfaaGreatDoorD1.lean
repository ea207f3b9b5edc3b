import Derived.Test.YteedncdcbgplfaaGreatDoorX1
import Derived.Test.YteedncdcbgplfaaGreatDoorR1
set_option maxHeartbeats 1000000
namespace Go.Proofs.YteedncdcbgplfaaGreatDoor
open Go.Proofs.Tryz
open Go Go.RowKit
section
set_option maxRecDepth 100000
theorem zr61:ZR 61 [.bool false,.str [],.int .i64 0]:=ZRi zeroValue61
theorem pl61:PL 61 [(0,1),(1,1),(2,1)]:=PLi U61
theorem beK{s:List UInt8}{p:Nat}(h:p<s.length)(ha:(s.getD p 0).toNat<128):Utf8.decode ⟨s.toArray⟩ p=((s.getD p 0).toNat,1):=by
 have hb:(⟨s.toArray⟩:ByteArray).get! (p+0)=s.getD p 0:=by
  rw[cN,aS,aR h];show s.toArray[p]! =_;simp[h]
 unfold Utf8.decode;simp only[hb];rw[aM ha]
theorem Digs.at{s:List UInt8}(hd:Digs s){p:Nat}(h:p<s.length):48≤(s.getD p 0).toNat∧(s.getD p 0).toNat≤57:=by
 rw[aS,aR h];exact hd _ (bF h)
theorem baZ{ds:List UInt8}(h:0<ds.length):Lib.hasSuffix ds [48]=decide (ds.getD (ds.length-1) 0=48):=by
 unfold Lib.hasSuffix;have e:ds=ds.take (ds.length-1)++[ds.getD (ds.length-1) 0]:=by
  have hl:ds.length-1<ds.length:=by omega
  rw[aS,aR hl,dO,bN hl,aX aA]
 by_cases hq:ds.getD (ds.length-1) 0=48
 ·rw[aP hq];rw[hq]at e;rw[List.isSuffixOf_iff_suffix];exact⟨_,e.symm⟩
 rw[aO hq];cases hs:[48].isSuffixOf ds with
 |false=>rfl
 |true=>
  rw[List.isSuffixOf_iff_suffix]at hs;obtain⟨u,hu⟩:=hs;exfalso;apply hq;rw[←hu];simp
theorem auW{b:UInt8}(k:Nat)(hk:k<256):decide (((b.toNat:Nat):Int)=(k:Int))=decide (b=UInt8.ofNat k):=by
 apply aN.2;constructor
 ·intro h;apply UInt8.toNat_inj.1;rw[UInt8.toNat_ofNat'];omega
 intro h;rw[h,UInt8.toNat_ofNat'];omega
def bbX(ds:List UInt8)(e:Int):Bool:=decide ((ds.length:Int)≤1100)&&decide (-100000≤e)&&decide (e≤100000)&&decide (((ds.getD 0 0).toNat:Int)≠48)&& !decide (((ds.getD (ds.length-1) 0).toNat:Int)=48)
theorem aqW{ds:List UInt8}{e:Int}(h:ds≠[]):yL ds e=(bbX ds e&&bmI ds):=by
 unfold yL bbX;rw[aL h];have e1:=auW (b:=ds.getD 0 0) 48 aC;have e2:=auW (b:=ds.getD (ds.length-1) 0) 48 aC;have e3:decide ((ds.length:Int)≤1100)=decide (ds.length≤1100):=aN.2 aA;have e4:decide (((ds.getD 0 0).toNat:Int)≠48)= !decide (ds.getD 0 0=UInt8.ofNat 48):=by rw[←e1];exact decide_not
 rw[e3,e4,show decide (((ds.getD (ds.length-1) 0).toNat:Int)=48)=decide (ds.getD (ds.length-1) 0=UInt8.ofNat 48)from e2];show _=(_&&_&&_&& !decide (ds.getD 0 0=48)&& !decide (ds.getD (ds.length-1) 0=48)&&bmI ds);generalize decide (ds.length≤1100)=a1;generalize decide (-100000≤e)=a2;generalize decide (e≤100000)=a3;generalize bmI ds=a4;generalize decide (ds.getD 0 0=48)=a5;generalize decide (ds.getD (ds.length-1) 0=48)=a6;cases a1<;>cases a2<;>cases a3<;>cases a4<;>cases a5<;>cases a6<;>rfl
def bcO(s:List UInt8)(b:Nat)(H:Heap):Nat→Env→Heap→Prop:=λk env H1=>∃p:Nat,p≤s.length∧env=[(6,.ptr (some ⟨b,0,none⟩))]∧H1=H.set b (.raw (.stringIter ⟨s.toArray⟩ p))∧k=s.length-p
theorem alH(s:List UInt8)(hd:Digs s)(H:Heap):ACall prog 150 [.str s] H (λy H'=>y= .bool true∧H'=H):=by
 refine ACall.of_body func150 rfl ntmps150 results150 rfl ?_;refine AX ?_;refine AX ?_;refine AList.p rfl (zC zY) ?_;refine AList.nil ?_;iterate 3 refine AX ?_
 refine AX ?_;refine AList.p rfl (zD (.tmp _ _ rfl)) ?_;refine AList.s rfl (axL U9 (.tmp _ _ rfl)) ?_;rintro _ _ ⟨b6,rfl,hb6,hH⟩;obtain rfl:=hH.symm;refine AList.nil ?_;iterate 2 refine AX ?_
 
 refine AWP.loopW (bcO s b6 H) (s.length) ⟨0,Nat.zero_le _,rfl,rfl,rfl⟩ (zJ rfl yF) (hRa _) ?_;rintro _ _ _ ⟨p,hp,rfl,rfl,hk⟩;refine AX ?_;refine AX ?_;refine AList.s rfl (bbB (.tmp _ _ rfl) (by first|assumption|exact(by assumption:Heap.le _ _).objs _ _ aB|exact oS _ _ _|exact(oN _ _ aB).trans (oS _ _ _)|exact(oN _ _ aB).trans ((oN _ _ aB).trans (oS _ _ _))|exact(oN _ _ aB).trans aB)) ?_;rintro _ Hn ⟨q7,rfl,hn7,hm7⟩;refine AList.p rfl (zQ (.tmp _ _ rfl) rfl) ?_;refine AList.nil ?_;iterate 2 refine AX ?_
 
 refine AWP.cond (.tmp _ _ rfl) (λhc8=>?_) (λhc8=>?_)
 ·try simp only[aK]at hc8
  obtain⟨rfl,rfl⟩:=hn7 aA;have hda:=hd.at (show p<s.length by omega);rw[beK aA aA];iterate 4 refine AX ?_
  refine AX ?_;refine AList.p rfl (zQ (.tmp _ _ rfl) rfl) ?_;refine AList.p rfl (zC (.tmp _ _ rfl)) ?_;refine AList.nil ?_;refine AX ?_;refine AWP.seqTo 15 (.bool (false)) [6] ?_ ?_
  ·refine AX ?_;refine AList.p rfl (zD (.tmp _ _ rfl)) ?_;refine AList.p rfl (aaQ (.tmp _ _ rfl) zG) ?_;refine AList.p rfl (zD (.tmp _ _ rfl)) ?_
   
   refine zB (t:=12) rfl (λhg12=>?_) (λhg12=>?_)
   ·refine AList.gn rfl rfl rfl aH ?_;refine AList.gn rfl rfl rfl aH ?_;refine AList.p rfl (yK (.tmp _ _ rfl) aH zY) ?_;refine AList.nil ?_;exact⟨rfl,zP rfl (by first|rfl|(exfalso;have:=of_decide_eq_true hg12;omega)|(congr 1;exact aO aA)|(simp[*];done)|simp_all) (zJ rfl yF),rfl⟩
   refine AList.gp rfl rfl rfl aH (zD (.tmp _ _ rfl)) ?_;refine AList.gp rfl rfl rfl aH (abW (.tmp _ _ rfl) zG) ?_;refine AList.p rfl (yE (.tmp _ _ rfl) aH (.tmp _ _ rfl)) ?_;refine AList.nil ?_;exact⟨rfl,zP rfl (by first|rfl|(exfalso;have:=of_decide_eq_true hg12;omega)|(congr 1;exact aO aA)|(simp[*];done)|simp_all) (zJ rfl yF),rfl⟩
  refine AWP.sub [(15,_),(6,_)] sX ?_
  
  refine AWP.cond_false (.tmp _ _ rfl) aD ?_;iterate 3 refine AX ?_
  refine Round.mk (J:=bcO s b6 H) ⟨p+1,by omega,rfl,by rw[sS],rfl⟩ (zJ rfl yF) (hRa _) aA
 try simp only[aK]at hc8
 obtain⟨rfl,rfl⟩:=hm7 aA;iterate 6 refine AX ?_
 refine AX ?_;refine AList.p rfl (zC zY) ?_;refine AList.nil ?_;iterate 2 refine AX ?_
 
 refine Ret.go (.cons (.tmp _ _ rfl) .nil) _ (Heap.le_set hb6 _) ?_;exact⟨rfl,rfl⟩
theorem acX(neg:Bool)(ds:List UInt8)(e:Int)(hd:Digs ds):Fn 152 [dA neg ds e] (.bool (yL ds e)):=by
 intro H;refine .of_body func152 rfl ntmps152 results152 rfl ?_;refine AX ?_;refine AX ?_;refine .s rfl (qA (.tmp _ _ rfl) (.inr ⟨_,rfl⟩)) ?_;rintro _ _ ⟨rfl,hH⟩;obtain rfl:=hH.symm;refine .p rfl (zC zY) ?_;refine .nil ?_;iterate 3 refine AX ?_
 refine AX ?_;first|(refine .p rfl (zA U61 rfl Z9 (.tmp _ _ rfl)) ?_)|(refine .p rfl (zF U61 rfl Z9 (.tmp _ _ rfl)) ?_)
 first|(refine .p rfl (zV G9 (.tmp _ _ rfl)) ?_)|(refine .s rfl (zL G9 (.tmp _ _ rfl) (by first|assumption|exact(by assumption:Heap.le _ _).objs _ _ aB|exact oS _ _ _|exact(oN _ _ aB).trans (oS _ _ _)|exact(oN _ _ aB).trans ((oN _ _ aB).trans (oS _ _ _))|exact(oN _ _ aB).trans aB) rfl) ?_;rintro _ _ ⟨rfl,hH⟩;obtain rfl:=hH.symm)
 refine .p rfl (aaG (.tmp _ _ rfl) (zM rfl)) ?_;refine .nil ?_;refine AX ?_
 
 refine .cond (.tmp _ _ rfl) (λhc5=>?_) (λhc5=>?_)
 ·try simp only[aK]at hc5
  refine AX ?_;refine AX ?_;first|(refine .p rfl (zA U61 rfl Z3 (.tmp _ _ rfl)) ?_)|(refine .p rfl (zF U61 rfl Z3 (.tmp _ _ rfl)) ?_)
  first|(refine .p rfl (zV G3 (.tmp _ _ rfl)) ?_)|(refine .s rfl (zL G3 (.tmp _ _ rfl) (by first|assumption|exact(by assumption:Heap.le _ _).objs _ _ aB|exact oS _ _ _|exact(oN _ _ aB).trans (oS _ _ _)|exact(oN _ _ aB).trans ((oN _ _ aB).trans (oS _ _ _))|exact(oN _ _ aB).trans aB) rfl) ?_;rintro _ _ ⟨rfl,hH⟩;obtain rfl:=hH.symm)
  refine .p rfl (aaR (.tmp _ _ rfl) zG) ?_;refine .p rfl (zC (.tmp _ _ rfl)) ?_;refine .nil ?_;iterate 3 refine AX ?_
  
  refine AX ?_;refine⟨?_,rfl⟩;unfold yL;rw[aM hc5];rfl
 try simp only[aK]at hc5
 have hlp:0<ds.length:=cG.2 hc5;have hsuf:=(baZ hlp).trans (auW (b:=ds.getD (ds.length-1) 0) 48 aC).symm;iterate 2 refine AX ?_
 refine .seqTo 2 (.bool (decide ((ds.length:Int)≤1100)&&decide (-100000≤e)&&decide (e≤100000)&&true&&decide (((ds.getD 0 0).toNat:Int)≠48)&& !(Lib.hasSuffix ds [48]))) [] ?_ ?_
 ·refine AX ?_;first|(refine .p rfl (zA U61 rfl Z9 (.tmp _ _ rfl)) ?_)|(refine .p rfl (zF U61 rfl Z9 (.tmp _ _ rfl)) ?_)
  first|(refine .p rfl (zV G9 (.tmp _ _ rfl)) ?_)|(refine .s rfl (zL G9 (.tmp _ _ rfl) (by first|assumption|exact(by assumption:Heap.le _ _).objs _ _ aB|exact oS _ _ _|exact(oN _ _ aB).trans (oS _ _ _)|exact(oN _ _ aB).trans ((oN _ _ aB).trans (oS _ _ _))|exact(oN _ _ aB).trans aB) rfl) ?_;rintro _ _ ⟨rfl,hH⟩;obtain rfl:=hH.symm)
  refine .p rfl (abO U9 (.tmp _ _ rfl)) ?_;refine .p rfl (apA (.tmp _ _ rfl) zG) ?_;refine .p rfl (zD (.tmp _ _ rfl)) ?_
  
  refine zB (t:=13) rfl (λhg13=>?_) (λhg13=>?_)
  ·have hh13:=hg13;try simp only[aK]at hh13
   first|(refine .gp rfl rfl rfl aH (zA U61 rfl Z3 (.tmp _ _ rfl)) ?_)|(refine .gp rfl rfl rfl aH (zF U61 rfl Z3 (.tmp _ _ rfl)) ?_)
   first|(refine .gp rfl rfl rfl aH (zV G3 (.tmp _ _ rfl)) ?_)|(refine .gs rfl rfl rfl aH (zL G3 (.tmp _ _ rfl) (by first|assumption|exact(by assumption:Heap.le _ _).objs _ _ aB|exact oS _ _ _|exact(oN _ _ aB).trans (oS _ _ _)|exact(oN _ _ aB).trans ((oN _ _ aB).trans (oS _ _ _))|exact(oN _ _ aB).trans aB) rfl) ?_;rintro _ _ ⟨rfl,hH⟩;obtain rfl:=hH.symm)
   refine .gp rfl rfl rfl aH (adE (.tmp _ _ rfl) zG) ?_;refine .p rfl (yK (.tmp _ _ rfl) aH (.tmp _ _ rfl)) ?_;refine .p rfl (zD (.tmp _ _ rfl)) ?_
   
   refine zB (t:=18) rfl (λhg18=>?_) (λhg18=>?_)
   ·have hh18:=hg18;try simp only[aK]at hh18
    first|(refine .gp rfl rfl rfl aH (zA U61 rfl Z3 (.tmp _ _ rfl)) ?_)|(refine .gp rfl rfl rfl aH (zF U61 rfl Z3 (.tmp _ _ rfl)) ?_)
    first|(refine .gp rfl rfl rfl aH (zV G3 (.tmp _ _ rfl)) ?_)|(refine .gs rfl rfl rfl aH (zL G3 (.tmp _ _ rfl) (by first|assumption|exact(by assumption:Heap.le _ _).objs _ _ aB|exact oS _ _ _|exact(oN _ _ aB).trans (oS _ _ _)|exact(oN _ _ aB).trans ((oN _ _ aB).trans (oS _ _ _))|exact(oN _ _ aB).trans aB) rfl) ?_;rintro _ _ ⟨rfl,hH⟩;obtain rfl:=hH.symm)
    refine .gp rfl rfl rfl aH (apA (.tmp _ _ rfl) zG) ?_;refine .p rfl (yK (.tmp _ _ rfl) aH (.tmp _ _ rfl)) ?_;refine .p rfl (zD (.tmp _ _ rfl)) ?_
    
    refine zB (t:=23) rfl (λhg23=>?_) (λhg23=>?_)
    ·have hh23:=hg23;try simp only[aK]at hh23
     first|(refine .gp rfl rfl rfl aH (zA U61 rfl Z9 (.tmp _ _ rfl)) ?_)|(refine .gp rfl rfl rfl aH (zF U61 rfl Z9 (.tmp _ _ rfl)) ?_)
     first|(refine .gp rfl rfl rfl aH (zV G9 (.tmp _ _ rfl)) ?_)|(refine .gs rfl rfl rfl aH (zL G9 (.tmp _ _ rfl) (by first|assumption|exact(by assumption:Heap.le _ _).objs _ _ aB|exact oS _ _ _|exact(oN _ _ aB).trans (oS _ _ _)|exact(oN _ _ aB).trans ((oN _ _ aB).trans (oS _ _ _))|exact(oN _ _ aB).trans aB) rfl) ?_;rintro _ _ ⟨rfl,hH⟩;obtain rfl:=hH.symm)
     refine .gs rfl rfl rfl aH (zE call150 (.cons (.tmp _ _ rfl) .nil) (alH _ hd _)) ?_;rintro _ _ ⟨rfl,hH⟩;obtain rfl:=hH.symm;refine .p rfl (yK (.tmp _ _ rfl) aH (.tmp _ _ rfl)) ?_;refine .p rfl (zD (.tmp _ _ rfl)) ?_
     
     refine zB (t:=28) rfl (λhg28=>?_) (λhg28=>?_)
     ·have hh28:=hg28;try simp only[aK]at hh28
      first|(refine .gp rfl rfl rfl aH (zA U61 rfl Z9 (.tmp _ _ rfl)) ?_)|(refine .gp rfl rfl rfl aH (zF U61 rfl Z9 (.tmp _ _ rfl)) ?_)
      first|(refine .gp rfl rfl rfl aH (zV G9 (.tmp _ _ rfl)) ?_)|(refine .gs rfl rfl rfl aH (zL G9 (.tmp _ _ rfl) (by first|assumption|exact(by assumption:Heap.le _ _).objs _ _ aB|exact oS _ _ _|exact(oN _ _ aB).trans (oS _ _ _)|exact(oN _ _ aB).trans ((oN _ _ aB).trans (oS _ _ _))|exact(oN _ _ aB).trans aB) rfl) ?_;rintro _ _ ⟨rfl,hH⟩;obtain rfl:=hH.symm)
      refine .gp rfl rfl rfl aH (aeG U9 (.tmp _ _ rfl) zG aA aA) ?_;refine .gp rfl rfl rfl aH (ahH (.tmp _ _ rfl) zG) ?_;refine .p rfl (yK (.tmp _ _ rfl) aH (.tmp _ _ rfl)) ?_;refine .p rfl (zD (.tmp _ _ rfl)) ?_
      
      refine zB (t:=34) rfl (λhg34=>?_) (λhg34=>?_)
      ·have hh34:=hg34;try simp only[aK]at hh34
       first|(refine .gp rfl rfl rfl aH (zA U61 rfl Z9 (.tmp _ _ rfl)) ?_)|(refine .gp rfl rfl rfl aH (zF U61 rfl Z9 (.tmp _ _ rfl)) ?_)
       first|(refine .gp rfl rfl rfl aH (zV G9 (.tmp _ _ rfl)) ?_)|(refine .gs rfl rfl rfl aH (zL G9 (.tmp _ _ rfl) (by first|assumption|exact(by assumption:Heap.le _ _).objs _ _ aB|exact oS _ _ _|exact(oN _ _ aB).trans (oS _ _ _)|exact(oN _ _ aB).trans ((oN _ _ aB).trans (oS _ _ _))|exact(oN _ _ aB).trans aB) rfl) ?_;rintro _ _ ⟨rfl,hH⟩;obtain rfl:=hH.symm)
       refine .gs rfl rfl rfl aH (zE call230 (.cons (.tmp _ _ rfl) (.cons (zM rfl) .nil)) (hasSuffixA _ _ _)) ?_;rintro _ _ ⟨rfl,hH⟩;obtain rfl:=hH.symm;refine .gp rfl rfl rfl aH (qH (.tmp _ _ rfl)) ?_;refine .p rfl (yK (.tmp _ _ rfl) aH (.tmp _ _ rfl)) ?_;refine .p rfl (zC (.tmp _ _ rfl)) ?_;refine .nil ?_;exact⟨rfl,zP rfl (by first|rfl|rfl|(simp[*];done)|simp_all) yF,rfl⟩
      have hh34:=hg34;try simp only[aK]at hh34
      refine .gn rfl rfl rfl aH ?_;refine .gn rfl rfl rfl aH ?_;refine .gn rfl rfl rfl aH ?_;refine .gn rfl rfl rfl aH ?_;refine .p rfl (yE (.tmp _ _ rfl) aH zY) ?_;refine .p rfl (zC (.tmp _ _ rfl)) ?_;refine .nil ?_;exact⟨rfl,zP rfl (by first|rfl|rfl|(simp[*];done)|simp_all) yF,rfl⟩
     have hh28:=hg28;try simp only[aK]at hh28
     refine .gn rfl rfl rfl aH ?_;refine .gn rfl rfl rfl aH ?_;refine .gn rfl rfl rfl aH ?_;refine .gn rfl rfl rfl aH ?_;refine .p rfl (yE (.tmp _ _ rfl) aH zY) ?_;refine .p rfl (zD (.tmp _ _ rfl)) ?_;refine .gn rfl rfl rfl aH ?_;refine .gn rfl rfl rfl aH ?_;refine .gn rfl rfl rfl aH ?_;refine .gn rfl rfl rfl aH ?_;refine .p rfl (yE (.tmp _ _ rfl) aH zY) ?_;refine .p rfl (zC (.tmp _ _ rfl)) ?_;refine .nil ?_;exact⟨rfl,zP rfl (by first|rfl|rfl|(simp[*];done)|simp_all) yF,rfl⟩
    have hh23:=hg23;try simp only[aK]at hh23
    refine .gn rfl rfl rfl aH ?_;refine .gn rfl rfl rfl aH ?_;refine .gn rfl rfl rfl aH ?_;refine .p rfl (yE (.tmp _ _ rfl) aH zY) ?_;refine .p rfl (zD (.tmp _ _ rfl)) ?_;refine .gn rfl rfl rfl aH ?_;refine .gn rfl rfl rfl aH ?_;refine .gn rfl rfl rfl aH ?_;refine .gn rfl rfl rfl aH ?_;refine .p rfl (yE (.tmp _ _ rfl) aH zY) ?_;refine .p rfl (zD (.tmp _ _ rfl)) ?_;refine .gn rfl rfl rfl aH ?_;refine .gn rfl rfl rfl aH ?_;refine .gn rfl rfl rfl aH ?_;refine .gn rfl rfl rfl aH ?_;refine .p rfl (yE (.tmp _ _ rfl) aH zY) ?_;refine .p rfl (zC (.tmp _ _ rfl)) ?_;refine .nil ?_;exact⟨rfl,zP rfl (by first|rfl|rfl|(simp[*];done)|simp_all) yF,rfl⟩
   have hh18:=hg18;try simp only[aK]at hh18
   refine .gn rfl rfl rfl aH ?_;refine .gn rfl rfl rfl aH ?_;refine .gn rfl rfl rfl aH ?_;refine .p rfl (yE (.tmp _ _ rfl) aH zY) ?_;refine .p rfl (zD (.tmp _ _ rfl)) ?_;refine .gn rfl rfl rfl aH ?_;refine .gn rfl rfl rfl aH ?_;refine .gn rfl rfl rfl aH ?_;refine .p rfl (yE (.tmp _ _ rfl) aH zY) ?_;refine .p rfl (zD (.tmp _ _ rfl)) ?_;refine .gn rfl rfl rfl aH ?_;refine .gn rfl rfl rfl aH ?_;refine .gn rfl rfl rfl aH ?_;refine .gn rfl rfl rfl aH ?_;refine .p rfl (yE (.tmp _ _ rfl) aH zY) ?_;refine .p rfl (zD (.tmp _ _ rfl)) ?_;refine .gn rfl rfl rfl aH ?_;refine .gn rfl rfl rfl aH ?_;refine .gn rfl rfl rfl aH ?_;refine .gn rfl rfl rfl aH ?_;refine .p rfl (yE (.tmp _ _ rfl) aH zY) ?_;refine .p rfl (zC (.tmp _ _ rfl)) ?_;refine .nil ?_;exact⟨rfl,zP rfl (by first|rfl|rfl|(simp[*];done)|simp_all) yF,rfl⟩
  have hh13:=hg13;try simp only[aK]at hh13
  refine .gn rfl rfl rfl aH ?_;refine .gn rfl rfl rfl aH ?_;refine .gn rfl rfl rfl aH ?_;refine .p rfl (yE (.tmp _ _ rfl) aH zY) ?_;refine .p rfl (zD (.tmp _ _ rfl)) ?_;refine .gn rfl rfl rfl aH ?_;refine .gn rfl rfl rfl aH ?_;refine .gn rfl rfl rfl aH ?_;refine .p rfl (yE (.tmp _ _ rfl) aH zY) ?_;refine .p rfl (zD (.tmp _ _ rfl)) ?_;refine .gn rfl rfl rfl aH ?_;refine .gn rfl rfl rfl aH ?_;refine .gn rfl rfl rfl aH ?_;refine .p rfl (yE (.tmp _ _ rfl) aH zY) ?_;refine .p rfl (zD (.tmp _ _ rfl)) ?_;refine .gn rfl rfl rfl aH ?_;refine .gn rfl rfl rfl aH ?_;refine .gn rfl rfl rfl aH ?_;refine .gn rfl rfl rfl aH ?_;refine .p rfl (yE (.tmp _ _ rfl) aH zY) ?_;refine .p rfl (zD (.tmp _ _ rfl)) ?_;refine .gn rfl rfl rfl aH ?_;refine .gn rfl rfl rfl aH ?_;refine .gn rfl rfl rfl aH ?_;refine .gn rfl rfl rfl aH ?_;refine .p rfl (yE (.tmp _ _ rfl) aH zY) ?_;refine .p rfl (zC (.tmp _ _ rfl)) ?_;refine .nil ?_;exact⟨rfl,zP rfl (by first|rfl|rfl|(simp[*];done)|simp_all) yF,rfl⟩
 refine .sub [(2,_)] (zJ rfl yF) ?_;refine AX ?_
 
 refine AX ?_;refine⟨?_,rfl⟩;simp only[yN];rw[aqW hc5,apP.2 hd,hsuf,Bool.and_true,Bool.and_true];rfl
def yC(ds:List UInt8)(e:Int):Int:=if yL ds e then(ds.length:Int)+e else 0
theorem abU(neg:Bool)(ds:List UInt8)(e:Int)(hd:Digs ds):Fn 88 [dA neg ds e] (.int .i64 (yC ds e)):=by
 intro H;refine .of_body func88 rfl ntmps88 results88 rfl ?_;refine AX ?_;refine AX ?_;refine .s rfl (qA (.tmp _ _ rfl) (.inr ⟨_,rfl⟩)) ?_;rintro _ _ ⟨rfl,hH⟩;obtain rfl:=hH.symm;refine .p rfl (zC zG) ?_;refine .nil ?_;iterate 3 refine AX ?_
 refine AX ?_;first|(refine .p rfl (yB G61 Z61 (.tmp _ _ rfl) (lB rfl)) ?_)|(refine .s rfl (zR G61 Z61 (.tmp _ _ rfl) (by first|assumption|exact(by assumption:Heap.le _ _).objs _ _ aB|exact oS _ _ _|exact(oN _ _ aB).trans (oS _ _ _)|exact(oN _ _ aB).trans ((oN _ _ aB).trans (oS _ _ _))|exact(oN _ _ aB).trans aB) (lB rfl)) ?_;rintro _ _ ⟨rfl,hH⟩;obtain rfl:=hH.symm)
 refine .s rfl (zE C152 (.cons (.tmp _ _ rfl) .nil) (acX neg ds e hd _)) ?_;rintro _ _ ⟨rfl,hH⟩;obtain rfl:=hH.symm;refine .p rfl (qH (.tmp _ _ rfl)) ?_;refine .nil ?_;refine AX ?_
 
 refine .cond (.tmp _ _ rfl) (λhc5=>?_) (λhc5=>?_)
 ·try simp only[aK]at hc5
  refine AX ?_;refine AX ?_;refine .p rfl (zC zG) ?_;refine .nil ?_;iterate 3 refine AX ?_
  
  refine AX ?_;refine⟨?_,rfl⟩;unfold yC;rw[aL (by simp[hc5])];rfl
 try simp only[aK]at hc5
 have hrl:=yX (show yL ds e=true from by simpa using hc5);iterate 3 refine AX ?_
 refine AX ?_;first|(refine .p rfl (zA U61 rfl Z9 (.tmp _ _ rfl)) ?_)|(refine .p rfl (zF U61 rfl Z9 (.tmp _ _ rfl)) ?_)
 first|(refine .p rfl (zV G9 (.tmp _ _ rfl)) ?_)|(refine .s rfl (zL G9 (.tmp _ _ rfl) (by first|assumption|exact(by assumption:Heap.le _ _).objs _ _ aB|exact oS _ _ _|exact(oN _ _ aB).trans (oS _ _ _)|exact(oN _ _ aB).trans ((oN _ _ aB).trans (oS _ _ _))|exact(oN _ _ aB).trans aB) rfl) ?_;rintro _ _ ⟨rfl,hH⟩;obtain rfl:=hH.symm)
 refine .p rfl (abO U9 (.tmp _ _ rfl)) ?_;first|(refine .p rfl (zA U61 rfl Z3 (.tmp _ _ rfl)) ?_)|(refine .p rfl (zF U61 rfl Z3 (.tmp _ _ rfl)) ?_)
 first|(refine .p rfl (zV G3 (.tmp _ _ rfl)) ?_)|(refine .s rfl (zL G3 (.tmp _ _ rfl) (by first|assumption|exact(by assumption:Heap.le _ _).objs _ _ aB|exact oS _ _ _|exact(oN _ _ aB).trans (oS _ _ _)|exact(oN _ _ aB).trans ((oN _ _ aB).trans (oS _ _ _))|exact(oN _ _ aB).trans aB) rfl) ?_;rintro _ _ ⟨rfl,hH⟩;obtain rfl:=hH.symm)
 refine .p rfl (yZ (.tmp _ _ rfl) (.tmp _ _ rfl) aA) ?_;refine .p rfl (zC (.tmp _ _ rfl)) ?_;refine .nil ?_;iterate 2 refine AX ?_
 
 refine AX ?_;refine⟨?_,rfl⟩;unfold yC;rw[aM (by simpa using hc5)];rfl
end
section
open Go Go.RowKit
set_option maxRecDepth 100000
theorem aiZ(neg:Bool)(ds:List UInt8)(e:Int)(hd:Digs ds)(hl:ds.length≤100000)(he: -1000000000000≤e∧e≤1000000000000):Fn 71 [.bool neg,.str ds,.int .i64 e] (dT (mkN neg ds e)):=by
 intro H;have hlo:=alX ds 48;have hml:=adL (ds.dropWhile (·==48)) 48;have hmo:e+(((ds.dropWhile (·==48)).length:Int)-((Lib.trimRightB (ds.dropWhile (·==48)) 48).length:Int))=e+(ahM ds:Int):=by unfold ahM abZ arO;omega
 have hdc:Digs (Lib.trimRightB (ds.dropWhile (·==48)) 48):=(hd.dropWhile _).trimR _;refine .of_body func71 rfl ntmps71 results71 rfl ?_;refine AX ?_;refine AX ?_;refine .s rfl (abF zr61) ?_;rintro _ _ ⟨b6,hb6,rfl,hH⟩;obtain rfl:=hH.symm;refine .p rfl (zC zG) ?_;refine .nil ?_;iterate 3 refine AX ?_
 refine AX ?_;refine .p rfl (zD (.tmp _ _ rfl)) ?_;refine .s rfl (zE call150 (.cons (.tmp _ _ rfl) .nil) (alH ds hd _)) ?_;rintro _ _ ⟨rfl,hH⟩;obtain rfl:=hH.symm;refine .p rfl (qH (.tmp _ _ rfl)) ?_;refine .nil ?_;refine AX ?_
 
 refine .cond_false (.tmp _ _ rfl) aD ?_;iterate 3 refine AX ?_
 refine AX ?_;refine .p rfl (zD (.tmp _ _ rfl)) ?_;refine .s rfl (zE call108 (.cons (.tmp _ _ rfl) (.cons (zM rfl) .nil)) (trimLeftA 48 aC _ _)) ?_;rintro _ _ ⟨rfl,hH⟩;obtain rfl:=hH.symm;refine .p rfl (zC (.tmp _ _ rfl)) ?_;refine .nil ?_;iterate 2 refine AX ?_
 refine AX ?_;refine .p rfl (zD (.tmp _ _ rfl)) ?_;refine .p rfl (zD (.tmp _ _ rfl)) ?_;refine .s rfl (zE call151 (.cons (.tmp _ _ rfl) (.cons (zM rfl) .nil)) (trimRightA 48 aC _ _)) ?_;rintro _ _ ⟨rfl,hH⟩;obtain rfl:=hH.symm;refine .p rfl (qN zr61 pl61 (.cons (.tmp _ _ rfl) (.inl rfl) (.cons (.tmp _ _ rfl) (.inl rfl) .nil)) rfl) ?_;refine .s rfl (abF zr61) ?_;rintro _ _ ⟨b9,hb9,rfl,hH⟩;obtain rfl:=hH.symm;have hn6_9:=Heap.ne_of (by first|assumption|exact(by assumption:Heap.le _ _).objs _ _ aB|exact oS _ _ _|exact(oN _ _ aB).trans (oS _ _ _)|exact(oN _ _ aB).trans ((oN _ _ aB).trans (oS _ _ _))|exact(oN _ _ aB).trans aB) hb9;refine .s0 (zH Z61 (.tmp _ _ rfl) (.tmp _ _ rfl) rfl rfl (.inr ⟨_,rfl⟩) (by first|assumption|exact(by assumption:Heap.le _ _).objs _ _ aB|exact oS _ _ _|exact(oN _ _ aB).trans (oS _ _ _)|exact(oN _ _ aB).trans ((oN _ _ aB).trans (oS _ _ _))|exact(oN _ _ aB).trans aB) (lB rfl)) ?_;rintro _ _ ⟨rfl,hH⟩;obtain rfl:=hH.symm;try first|rw[sS]|rw[sU aB]
 refine .nil ?_;iterate 3 refine AX ?_
 refine AX ?_;first|(refine .p rfl (zA U61 rfl Z9 (.tmp _ _ rfl)) ?_)|(refine .p rfl (zF U61 rfl Z9 (.tmp _ _ rfl)) ?_)
 first|(refine .p rfl (zV G9 (.tmp _ _ rfl)) ?_)|(refine .s rfl (zL G9 (.tmp _ _ rfl) (by first|assumption|exact(by assumption:Heap.le _ _).objs _ _ aB|exact oS _ _ _|exact(oN _ _ aB).trans (oS _ _ _)|exact(oN _ _ aB).trans ((oN _ _ aB).trans (oS _ _ _))|exact(oN _ _ aB).trans aB) rfl) ?_;rintro _ _ ⟨rfl,hH⟩;obtain rfl:=hH.symm)
 refine .p rfl (aaG (.tmp _ _ rfl) (zM rfl)) ?_;refine .nil ?_;refine AX ?_
 
 refine .cond (.tmp _ _ rfl) (λhc22=>?_) (λhc22=>?_)
 ·try simp only[aK]at hc22
  refine AX ?_;refine AX ?_;first|(refine .p rfl (yB G61 Z61 (.tmp _ _ rfl) (lB rfl)) ?_)|(refine .s rfl (zR G61 Z61 (.tmp _ _ rfl) (by first|assumption|exact(by assumption:Heap.le _ _).objs _ _ aB|exact oS _ _ _|exact(oN _ _ aB).trans (oS _ _ _)|exact(oN _ _ aB).trans ((oN _ _ aB).trans (oS _ _ _))|exact(oN _ _ aB).trans aB) (lB rfl)) ?_;rintro _ _ ⟨rfl,hH⟩;obtain rfl:=hH.symm)
  refine .s0 (zH Z61 (.tmp _ _ rfl) (.tmp _ _ rfl) rfl rfl (.inr ⟨_,rfl⟩) (by first|assumption|exact(by assumption:Heap.le _ _).objs _ _ aB|exact oS _ _ _|exact(oN _ _ aB).trans (oS _ _ _)|exact(oN _ _ aB).trans ((oN _ _ aB).trans (oS _ _ _))|exact(oN _ _ aB).trans aB) (lB rfl)) ?_;rintro _ _ ⟨rfl,hH⟩;obtain rfl:=hH.symm;try first|rw[sS]|rw[sU aB]
  refine .p rfl (zC zG) ?_;refine .nil ?_;refine AX ?_;refine .dropb (by first|exact hb9|exact fS hb9 _) ?_;refine .frz (t:=6) rfl (by first|exact hb6|exact fS hb6 _) ?_;iterate 2 refine AX ?_
  
  refine AX ?_;refine⟨?_,rfl⟩;unfold mkN;rw[aM (show abZ ds=[]from hc22)];rw[show ds.dropWhile (·==48)=arO ds from rfl,show Lib.trimRightB (arO ds) 48=abZ ds from rfl,show abZ ds=[]from hc22];rfl
 try simp only[aK]at hc22
 iterate 4 refine AX ?_
 refine AX ?_;refine .p rfl (zD (.tmp _ _ rfl)) ?_;first|(refine .p rfl (zA U61 rfl Z3 (.tmp _ _ rfl)) ?_)|(refine .p rfl (zF U61 rfl Z3 (.tmp _ _ rfl)) ?_)
 refine .s0 (zH Z3 (.tmp _ _ rfl) (.tmp _ _ rfl) rfl rfl (.inl rfl) (by first|assumption|exact(by assumption:Heap.le _ _).objs _ _ aB|exact oS _ _ _|exact(oN _ _ aB).trans (oS _ _ _)|exact(oN _ _ aB).trans ((oN _ _ aB).trans (oS _ _ _))|exact(oN _ _ aB).trans aB) (lB rfl)) ?_;rintro _ _ ⟨rfl,hH⟩;obtain rfl:=hH.symm;try first|rw[sS]|rw[sU aB]
 refine .nil ?_;iterate 2 refine AX ?_
 refine AX ?_;refine .p rfl (zD (.tmp _ _ rfl)) ?_;refine .p rfl (zD (.tmp _ _ rfl)) ?_;refine .p rfl (yZ (.tmp _ _ rfl) zG aA) ?_;refine .p rfl (awG (.tmp _ _ rfl) aA) ?_;refine .p rfl (alC (.tmp _ _ rfl) (.tmp _ _ rfl)) ?_;refine .p rfl (aaQ (.tmp _ _ rfl) zG) ?_;refine .nil ?_;refine AX ?_
 
 refine .cond_true (.tmp _ _ rfl) (by exact aP (by simp only[asQ];split<;>omega)) ?_;refine AX ?_;first|(refine .p rfl (zA U61 rfl Z3 (.tmp _ _ rfl)) ?_)|(refine .p rfl (zF U61 rfl Z3 (.tmp _ _ rfl)) ?_)
 first|(refine .p rfl (zV G3 (.tmp _ _ rfl)) ?_)|(refine .s rfl (zL G3 (.tmp _ _ rfl) (by first|assumption|exact(by assumption:Heap.le _ _).objs _ _ aB|exact oS _ _ _|exact(oN _ _ aB).trans (oS _ _ _)|exact(oN _ _ aB).trans ((oN _ _ aB).trans (oS _ _ _))|exact(oN _ _ aB).trans aB) rfl) ?_;rintro _ _ ⟨rfl,hH⟩;obtain rfl:=hH.symm)
 refine .p rfl (zD (.tmp _ _ rfl)) ?_;refine .p rfl (abO U9 (.tmp _ _ rfl)) ?_;first|(refine .p rfl (zA U61 rfl Z9 (.tmp _ _ rfl)) ?_)|(refine .p rfl (zF U61 rfl Z9 (.tmp _ _ rfl)) ?_)
 first|(refine .p rfl (zV G9 (.tmp _ _ rfl)) ?_)|(refine .s rfl (zL G9 (.tmp _ _ rfl) (by first|assumption|exact(by assumption:Heap.le _ _).objs _ _ aB|exact oS _ _ _|exact(oN _ _ aB).trans (oS _ _ _)|exact(oN _ _ aB).trans ((oN _ _ aB).trans (oS _ _ _))|exact(oN _ _ aB).trans aB) rfl) ?_;rintro _ _ ⟨rfl,hH⟩;obtain rfl:=hH.symm)
 refine .p rfl (abO U9 (.tmp _ _ rfl)) ?_;refine .p rfl (aaD (.tmp _ _ rfl) (.tmp _ _ rfl) aA) ?_;refine .p rfl (yZ (.tmp _ _ rfl) (.tmp _ _ rfl) aA) ?_;first|(refine .p rfl (zA U61 rfl Z3 (.tmp _ _ rfl)) ?_)|(refine .p rfl (zF U61 rfl Z3 (.tmp _ _ rfl)) ?_)
 refine .s0 (zH Z3 (.tmp _ _ rfl) (.tmp _ _ rfl) rfl rfl (.inl rfl) (by first|assumption|exact(by assumption:Heap.le _ _).objs _ _ aB|exact oS _ _ _|exact(oN _ _ aB).trans (oS _ _ _)|exact(oN _ _ aB).trans ((oN _ _ aB).trans (oS _ _ _))|exact(oN _ _ aB).trans aB) (lB rfl)) ?_;rintro _ _ ⟨rfl,hH⟩;obtain rfl:=hH.symm;try first|rw[sS]|rw[sU aB]
 refine .nil ?_;iterate 3 refine AX ?_
 rw[hmo];refine AX ?_;first|(refine .p rfl (yB G61 Z61 (.tmp _ _ rfl) (lB rfl)) ?_)|(refine .s rfl (zR G61 Z61 (.tmp _ _ rfl) (by first|assumption|exact(by assumption:Heap.le _ _).objs _ _ aB|exact oS _ _ _|exact(oN _ _ aB).trans (oS _ _ _)|exact(oN _ _ aB).trans ((oN _ _ aB).trans (oS _ _ _))|exact(oN _ _ aB).trans aB) (lB rfl)) ?_;rintro _ _ ⟨rfl,hH⟩;obtain rfl:=hH.symm)
 refine .s rfl (zE C152 (.cons (.tmp _ _ rfl) .nil) (acX neg _ _ hdc _)) ?_;rintro _ _ ⟨rfl,hH⟩;obtain rfl:=hH.symm;refine .p rfl (qH (.tmp _ _ rfl)) ?_;refine .nil ?_;refine AX ?_
 
 refine .cond (.tmp _ _ rfl) (λhc44=>?_) (λhc44=>?_)
 ·try simp only[aK]at hc44
  refine AX ?_;refine AX ?_;refine .p rfl (qN zr61 pl61 .nil rfl) ?_;refine .s0 (zH Z61 (.tmp _ _ rfl) (.tmp _ _ rfl) rfl rfl (.inr ⟨_,rfl⟩) (by first|assumption|exact(by assumption:Heap.le _ _).objs _ _ aB|exact oS _ _ _|exact(oN _ _ aB).trans (oS _ _ _)|exact(oN _ _ aB).trans ((oN _ _ aB).trans (oS _ _ _))|exact(oN _ _ aB).trans aB) (lB rfl)) ?_;rintro _ _ ⟨rfl,hH⟩;obtain rfl:=hH.symm;try first|rw[sS]|rw[sU aB]
  refine .p rfl (zC zG) ?_;refine .nil ?_;refine AX ?_;refine .dropb (by first|exact hb9|exact fS hb9 _) ?_;refine .frz (t:=6) rfl (by first|exact hb6|exact fS hb6 _) ?_;iterate 2 refine AX ?_
  
  refine AX ?_;refine⟨?_,rfl⟩;have hr:yL (abZ ds) (e+ahM ds)=false:=by first|exact hc44|exact(Bool.not_eq_false _).mp hc44|(simp only[Bool.not_eq_true,Bool.not_eq_false]at hc44;exact hc44)
  rw[aiV hd hc22]at hr;unfold mkN;rw[aL (show¬abZ ds=[]from hc22),aL (by rintro⟨q1,q2,q3⟩;simp[q1,q2,q3]at hr)];rfl
 try simp only[aK]at hc44
 iterate 3 refine AX ?_
 refine AX ?_;first|(refine .p rfl (yB G61 Z61 (.tmp _ _ rfl) (lB rfl)) ?_)|(refine .s rfl (zR G61 Z61 (.tmp _ _ rfl) (by first|assumption|exact(by assumption:Heap.le _ _).objs _ _ aB|exact oS _ _ _|exact(oN _ _ aB).trans (oS _ _ _)|exact(oN _ _ aB).trans ((oN _ _ aB).trans (oS _ _ _))|exact(oN _ _ aB).trans aB) (lB rfl)) ?_;rintro _ _ ⟨rfl,hH⟩;obtain rfl:=hH.symm)
 refine .s0 (zH Z61 (.tmp _ _ rfl) (.tmp _ _ rfl) rfl rfl (.inr ⟨_,rfl⟩) (by first|assumption|exact(by assumption:Heap.le _ _).objs _ _ aB|exact oS _ _ _|exact(oN _ _ aB).trans (oS _ _ _)|exact(oN _ _ aB).trans ((oN _ _ aB).trans (oS _ _ _))|exact(oN _ _ aB).trans aB) (lB rfl)) ?_;rintro _ _ ⟨rfl,hH⟩;obtain rfl:=hH.symm;try first|rw[sS]|rw[sU aB]
 refine .p rfl (zC zG) ?_;refine .nil ?_;refine AX ?_;refine .dropb (by first|exact hb9|exact fS hb9 _) ?_;refine .frz (t:=6) rfl (by first|exact hb6|exact fS hb6 _) ?_;refine AX ?_
 
 refine AX ?_;refine⟨?_,rfl⟩;have hr:yL (abZ ds) (e+ahM ds)=true:=by first|exact hc44|exact(Bool.not_eq_false _).mp hc44|(simp only[Bool.not_eq_true,Bool.not_eq_false]at hc44;exact hc44)
 rw[aiV hd hc22]at hr;simp only[bB,aV]at hr;unfold mkN;rw[aL (show¬abZ ds=[]from hc22),aM ⟨hr.1.1,hr.1.2,hr.2⟩];rfl
end
end Go.Proofs.YteedncdcbgplfaaGreatDoor
