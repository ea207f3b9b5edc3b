import Derived.Test.YteedncdcbgplfaaGreatDoorX1
import Derived.Test.YteedncdcbgplfaaGreatDoorR1
set_option maxHeartbeats 1000000
namespace Go.Proofs.YteedncdcbgplfaaGreatDoor
open Go.Proofs.Tryz
open Go Go.RowKit
variable{ds:List UInt8}{i:Nat}
section
set_option maxRecDepth 100000
theorem zr61:ZR 61 [.bool false,.str [],.int .i64 0]:=ZRi zeroValue61
theorem pl61:PL 61 [(0,1),(1,1),(2,1)]:=PLi U61
theorem bwF{s:List UInt8}{p:Nat}(h:p<s.length)(ha:(s.getD p 0).toNat<128):Utf8.decode ⟨s.toArray⟩ p=((s.getD p 0).toNat,1):=by
 have hb:(⟨s.toArray⟩:ByteArray).get! (p+0)=s.getD p 0:=by
  rw[cA,aP,aX h];show s.toArray[p]! =_;simp[h]
 unfold Utf8.decode;simp only[hb];rw[aN ha]
theorem Digs.at{s:List UInt8}(hd:Digs s){p:Nat}(h:p<s.length):48≤(s.getD p 0).toNat∧(s.getD p 0).toNat≤57:=by
 rw[aP,aX h];exact hd _ (cF h)
def bxQ(b:UInt8):Bool:=decide ((48:Int)≤((b.toNat:Nat):Int))&&decide (((b.toNat:Nat):Int)≤57)
theorem bwD(hi:i<ds.length)(h:awN (ds.take i)=true):awN (ds.take (i+1))=bxQ (ds.getD i 0):=by
 unfold awN at *;rw[←cI hi,List.all_append,h,aP,aX hi];simp only[List.all_cons,List.all_nil,Bool.and_true,Bool.true_and,bxQ,eW];congr 1
 ·exact aQ.2 aA
 exact aQ.2 aA
theorem bcW(h:awN ds=true):awN (ds.take i)=true:=by
 unfold awN at *;rw[eD]at h ⊢;exact λx hx=>h x (fQ hx)
theorem brD(h:0<ds.length):Lib.hasSuffix ds [48]=decide (ds.getD (ds.length-1) 0=48):=by
 unfold Lib.hasSuffix;have e:ds=ds.take (ds.length-1)++[ds.getD (ds.length-1) 0]:=by
  have hl:ds.length-1<ds.length:=by omega
  rw[aP,aX hl,eW,cI hl,aY aA]
 by_cases hq:ds.getD (ds.length-1) 0=48
 ·rw[aU hq];rw[hq]at e;rw[List.isSuffixOf_iff_suffix];exact⟨_,e.symm⟩
 rw[aS hq];cases hs:[48].isSuffixOf ds with
 |false=>rfl
 |true=>
  rw[List.isSuffixOf_iff_suffix]at hs;obtain⟨u,hu⟩:=hs;exfalso;apply hq;rw[←hu];simp
theorem azF{b:UInt8}(k:Nat)(hk:k<256):decide (((b.toNat:Nat):Int)=(k:Int))=decide (b=UInt8.ofNat k):=by
 apply aQ.2;constructor
 ·intro h;apply fK.1;rw[gB];omega
 intro h;rw[h,gB];omega
def arF(ds:List UInt8)(e:Int):Bool:=decide ((ds.length:Int)≤1100)&&decide (-100000≤e)&&decide (e≤100000)&&decide (((ds.getD 0 0).toNat:Int)≠48)&& !decide (((ds.getD (ds.length-1) 0).toNat:Int)=48)
theorem arE{e:Int}(h:ds≠[]):yE ds e=(arF ds e&&awN ds):=by
 unfold yE arF;rw[aM h];have e1:=azF (b:=ds.getD 0 0) 48 aC;have e2:=azF (b:=ds.getD (ds.length-1) 0) 48 aC;have e3:decide ((ds.length:Int)≤1100)=decide (ds.length≤1100):=aQ.2 aA;have e4:decide (((ds.getD 0 0).toNat:Int)≠48)= !decide (ds.getD 0 0=UInt8.ofNat 48):=by rw[←e1];exact decide_not
 rw[e3,e4,show decide (((ds.getD (ds.length-1) 0).toNat:Int)=48)=decide (ds.getD (ds.length-1) 0=UInt8.ofNat 48)from e2];show _=(_&&_&&_&& !decide (ds.getD 0 0=48)&& !decide (ds.getD (ds.length-1) 0=48)&&awN ds);generalize decide (ds.length≤1100)=a1;generalize decide (-100000≤e)=a2;generalize decide (e≤100000)=a3;generalize awN ds=a4;generalize decide (ds.getD 0 0=48)=a5;generalize decide (ds.getD (ds.length-1) 0=48)=a6;cases a1<;>cases a2<;>cases a3<;>cases a4<;>cases a5<;>cases a6<;>rfl
def bsZ(s:List UInt8)(b:Nat)(H:Heap):Nat→Env→Heap→Prop:=λk env H1=>∃p:Nat,p≤s.length∧env=[(6,.ptr (some ⟨b,0,none⟩))]∧H1=H.set b (.raw (.stringIter ⟨s.toArray⟩ p))∧k=s.length-p
theorem arU(s:List UInt8)(hd:Digs s)(H:Heap):ACall prog 150 [.str s] H (λy H'=>y= .bool true∧H'=H):=by
 refine ACall.of_body func150 rfl ntmps150 results150 rfl ?_;refine AX ?_;refine AX ?_;refine AList.p rfl (zE zT) ?_;refine AList.nil ?_;iterate 3 refine AX ?_
 refine AX ?_;refine AList.p rfl (zG (.tmp _ _ rfl)) ?_;refine AList.s rfl (blP U9 (.tmp _ _ rfl)) ?_;rintro _ _ ⟨b6,rfl,hb6,hH⟩;obtain rfl:=hH.symm;refine AList.nil ?_;iterate 2 refine AX ?_
 
 refine AWP.loopW (bsZ s b6 H) (s.length) ⟨0,Nat.zero_le _,rfl,rfl,rfl⟩ (zK rfl yF) (hRa _) ?_;rintro _ _ _ ⟨p,hp,rfl,rfl,hk⟩;refine AX ?_;refine AX ?_;refine AList.s rfl (brE (.tmp _ _ rfl) (by first|assumption|exact(by assumption:Heap.le _ _).objs _ _ aB|exact oS _ _ _|exact(oN _ _ aB).trans (oS _ _ _)|exact(oN _ _ aB).trans ((oN _ _ aB).trans (oS _ _ _))|exact(oN _ _ aB).trans aB)) ?_;rintro _ Hn ⟨q7,rfl,hn7,hm7⟩;refine AList.p rfl (aaW (.tmp _ _ rfl) rfl) ?_;refine AList.nil ?_;iterate 2 refine AX ?_
 
 refine AWP.cond (.tmp _ _ rfl) (λhc8=>?_) (λhc8=>?_)
 ·try simp only[aL]at hc8
  obtain⟨rfl,rfl⟩:=hn7 aA;have hda:=hd.at (show p<s.length by omega);rw[bwF aA aA];iterate 4 refine AX ?_
  refine AX ?_;refine AList.p rfl (aaW (.tmp _ _ rfl) rfl) ?_;refine AList.p rfl (zE (.tmp _ _ rfl)) ?_;refine AList.nil ?_;refine AX ?_;refine AWP.seqTo 15 (.bool (false)) [6] ?_ ?_
  ·refine AX ?_;refine AList.p rfl (zG (.tmp _ _ rfl)) ?_;refine AList.p rfl (aaH (.tmp _ _ rfl) zJ) ?_;refine AList.p rfl (zG (.tmp _ _ rfl)) ?_
   
   refine zD (t:=12) rfl (λhg12=>?_) (λhg12=>?_)
   ·refine AList.gn rfl rfl rfl aH ?_;refine AList.gn rfl rfl rfl aH ?_;refine AList.p rfl (yI (.tmp _ _ rfl) aH zT) ?_;refine AList.nil ?_;exact⟨rfl,zS rfl (by first|rfl|(exfalso;have:=of_decide_eq_true hg12;omega)|(congr 1;exact aS aA)|(simp[*];done)|simp_all) (zK rfl yF),rfl⟩
   refine AList.gp rfl rfl rfl aH (zG (.tmp _ _ rfl)) ?_;refine AList.gp rfl rfl rfl aH (abH (.tmp _ _ rfl) zJ) ?_;refine AList.p rfl (yR (.tmp _ _ rfl) aH (.tmp _ _ rfl)) ?_;refine AList.nil ?_;exact⟨rfl,zS rfl (by first|rfl|(exfalso;have:=of_decide_eq_true hg12;omega)|(congr 1;exact aS aA)|(simp[*];done)|simp_all) (zK rfl yF),rfl⟩
  refine AWP.sub [(15,_),(6,_)] sX ?_
  
  refine AWP.cond_false (.tmp _ _ rfl) aD ?_;iterate 3 refine AX ?_
  refine Round.mk (J:=bsZ s b6 H) ⟨p+1,by omega,rfl,by rw[sS],rfl⟩ (zK rfl yF) (hRa _) aA
 try simp only[aL]at hc8
 obtain⟨rfl,rfl⟩:=hm7 aA;iterate 6 refine AX ?_
 refine AX ?_;refine AList.p rfl (zE zT) ?_;refine AList.nil ?_;iterate 2 refine AX ?_
 
 refine Ret.go (.cons (.tmp _ _ rfl) .nil) _ (Heap.le_set hb6 _) ?_;exact⟨rfl,rfl⟩
theorem adW(neg:Bool)(ds:List UInt8)(e:Int)(hd:Digs ds):Fn 152 [dA neg ds e] (.bool (yE ds e)):=by
 intro H;refine .of_body func152 rfl ntmps152 results152 rfl ?_;refine AX ?_;refine AX ?_;refine .s rfl (acJ (.tmp _ _ rfl) (.inr ⟨_,rfl⟩)) ?_;rintro _ _ ⟨rfl,hH⟩;obtain rfl:=hH.symm;refine .p rfl (zE zT) ?_;refine .nil ?_;iterate 3 refine AX ?_
 refine AX ?_;first|(refine .p rfl (zA U61 rfl Z9 (.tmp _ _ rfl)) ?_)|(refine .p rfl (zC U61 rfl Z9 (.tmp _ _ rfl)) ?_)
 first|(refine .p rfl (zW G9 (.tmp _ _ rfl)) ?_)|(refine .s rfl (zM G9 (.tmp _ _ rfl) (by first|assumption|exact(by assumption:Heap.le _ _).objs _ _ aB|exact oS _ _ _|exact(oN _ _ aB).trans (oS _ _ _)|exact(oN _ _ aB).trans ((oN _ _ aB).trans (oS _ _ _))|exact(oN _ _ aB).trans aB) rfl) ?_;rintro _ _ ⟨rfl,hH⟩;obtain rfl:=hH.symm)
 refine .p rfl (alK (.tmp _ _ rfl) (zO rfl)) ?_;refine .nil ?_;refine AX ?_
 
 refine .cond (.tmp _ _ rfl) (λhc5=>?_) (λhc5=>?_)
 ·try simp only[aL]at hc5
  refine AX ?_;refine AX ?_;first|(refine .p rfl (zA U61 rfl Z3 (.tmp _ _ rfl)) ?_)|(refine .p rfl (zC U61 rfl Z3 (.tmp _ _ rfl)) ?_)
  first|(refine .p rfl (zW G3 (.tmp _ _ rfl)) ?_)|(refine .s rfl (zM G3 (.tmp _ _ rfl) (by first|assumption|exact(by assumption:Heap.le _ _).objs _ _ aB|exact oS _ _ _|exact(oN _ _ aB).trans (oS _ _ _)|exact(oN _ _ aB).trans ((oN _ _ aB).trans (oS _ _ _))|exact(oN _ _ aB).trans aB) rfl) ?_;rintro _ _ ⟨rfl,hH⟩;obtain rfl:=hH.symm)
  refine .p rfl (acE (.tmp _ _ rfl) zJ) ?_;refine .p rfl (zE (.tmp _ _ rfl)) ?_;refine .nil ?_;iterate 3 refine AX ?_
  
  refine AX ?_;refine⟨?_,rfl⟩;unfold yE;rw[aN hc5];rfl
 try simp only[aL]at hc5
 have hlp:0<ds.length:=bV.2 hc5;have hsuf:=(brD hlp).trans (azF (b:=ds.getD (ds.length-1) 0) 48 aC).symm;iterate 2 refine AX ?_
 refine .seqTo 2 (.bool (decide ((ds.length:Int)≤1100)&&decide (-100000≤e)&&decide (e≤100000)&&true&&decide (((ds.getD 0 0).toNat:Int)≠48)&& !(Lib.hasSuffix ds [48]))) [] ?_ ?_
 ·refine AX ?_;first|(refine .p rfl (zA U61 rfl Z9 (.tmp _ _ rfl)) ?_)|(refine .p rfl (zC U61 rfl Z9 (.tmp _ _ rfl)) ?_)
  first|(refine .p rfl (zW G9 (.tmp _ _ rfl)) ?_)|(refine .s rfl (zM G9 (.tmp _ _ rfl) (by first|assumption|exact(by assumption:Heap.le _ _).objs _ _ aB|exact oS _ _ _|exact(oN _ _ aB).trans (oS _ _ _)|exact(oN _ _ aB).trans ((oN _ _ aB).trans (oS _ _ _))|exact(oN _ _ aB).trans aB) rfl) ?_;rintro _ _ ⟨rfl,hH⟩;obtain rfl:=hH.symm)
  refine .p rfl (aaP U9 (.tmp _ _ rfl)) ?_;refine .p rfl (apQ (.tmp _ _ rfl) zJ) ?_;refine .p rfl (zG (.tmp _ _ rfl)) ?_
  
  refine zD (t:=13) rfl (λhg13=>?_) (λhg13=>?_)
  ·have hh13:=hg13;try simp only[aL]at hh13
   first|(refine .gp rfl rfl rfl aH (zA U61 rfl Z3 (.tmp _ _ rfl)) ?_)|(refine .gp rfl rfl rfl aH (zC U61 rfl Z3 (.tmp _ _ rfl)) ?_)
   first|(refine .gp rfl rfl rfl aH (zW G3 (.tmp _ _ rfl)) ?_)|(refine .gs rfl rfl rfl aH (zM G3 (.tmp _ _ rfl) (by first|assumption|exact(by assumption:Heap.le _ _).objs _ _ aB|exact oS _ _ _|exact(oN _ _ aB).trans (oS _ _ _)|exact(oN _ _ aB).trans ((oN _ _ aB).trans (oS _ _ _))|exact(oN _ _ aB).trans aB) rfl) ?_;rintro _ _ ⟨rfl,hH⟩;obtain rfl:=hH.symm)
   refine .gp rfl rfl rfl aH (ajS (.tmp _ _ rfl) zJ) ?_;refine .p rfl (yI (.tmp _ _ rfl) aH (.tmp _ _ rfl)) ?_;refine .p rfl (zG (.tmp _ _ rfl)) ?_
   
   refine zD (t:=18) rfl (λhg18=>?_) (λhg18=>?_)
   ·have hh18:=hg18;try simp only[aL]at hh18
    first|(refine .gp rfl rfl rfl aH (zA U61 rfl Z3 (.tmp _ _ rfl)) ?_)|(refine .gp rfl rfl rfl aH (zC U61 rfl Z3 (.tmp _ _ rfl)) ?_)
    first|(refine .gp rfl rfl rfl aH (zW G3 (.tmp _ _ rfl)) ?_)|(refine .gs rfl rfl rfl aH (zM G3 (.tmp _ _ rfl) (by first|assumption|exact(by assumption:Heap.le _ _).objs _ _ aB|exact oS _ _ _|exact(oN _ _ aB).trans (oS _ _ _)|exact(oN _ _ aB).trans ((oN _ _ aB).trans (oS _ _ _))|exact(oN _ _ aB).trans aB) rfl) ?_;rintro _ _ ⟨rfl,hH⟩;obtain rfl:=hH.symm)
    refine .gp rfl rfl rfl aH (apQ (.tmp _ _ rfl) zJ) ?_;refine .p rfl (yI (.tmp _ _ rfl) aH (.tmp _ _ rfl)) ?_;refine .p rfl (zG (.tmp _ _ rfl)) ?_
    
    refine zD (t:=23) rfl (λhg23=>?_) (λhg23=>?_)
    ·have hh23:=hg23;try simp only[aL]at hh23
     first|(refine .gp rfl rfl rfl aH (zA U61 rfl Z9 (.tmp _ _ rfl)) ?_)|(refine .gp rfl rfl rfl aH (zC U61 rfl Z9 (.tmp _ _ rfl)) ?_)
     first|(refine .gp rfl rfl rfl aH (zW G9 (.tmp _ _ rfl)) ?_)|(refine .gs rfl rfl rfl aH (zM G9 (.tmp _ _ rfl) (by first|assumption|exact(by assumption:Heap.le _ _).objs _ _ aB|exact oS _ _ _|exact(oN _ _ aB).trans (oS _ _ _)|exact(oN _ _ aB).trans ((oN _ _ aB).trans (oS _ _ _))|exact(oN _ _ aB).trans aB) rfl) ?_;rintro _ _ ⟨rfl,hH⟩;obtain rfl:=hH.symm)
     refine .gs rfl rfl rfl aH (zB call150 (.cons (.tmp _ _ rfl) .nil) (arU _ hd _)) ?_;rintro _ _ ⟨rfl,hH⟩;obtain rfl:=hH.symm;refine .p rfl (yI (.tmp _ _ rfl) aH (.tmp _ _ rfl)) ?_;refine .p rfl (zG (.tmp _ _ rfl)) ?_
     
     refine zD (t:=28) rfl (λhg28=>?_) (λhg28=>?_)
     ·have hh28:=hg28;try simp only at hh28
      first|(refine .gp rfl rfl rfl aH (zA U61 rfl Z9 (.tmp _ _ rfl)) ?_)|(refine .gp rfl rfl rfl aH (zC U61 rfl Z9 (.tmp _ _ rfl)) ?_)
      first|(refine .gp rfl rfl rfl aH (zW G9 (.tmp _ _ rfl)) ?_)|(refine .gs rfl rfl rfl aH (zM G9 (.tmp _ _ rfl) (by first|assumption|exact(by assumption:Heap.le _ _).objs _ _ aB|exact oS _ _ _|exact(oN _ _ aB).trans (oS _ _ _)|exact(oN _ _ aB).trans ((oN _ _ aB).trans (oS _ _ _))|exact(oN _ _ aB).trans aB) rfl) ?_;rintro _ _ ⟨rfl,hH⟩;obtain rfl:=hH.symm)
      refine .gp rfl rfl rfl aH (qQ U9 (.tmp _ _ rfl) zJ aA aA) ?_;refine .gp rfl rfl rfl aH (apP (.tmp _ _ rfl) zJ) ?_;refine .p rfl (yI (.tmp _ _ rfl) aH (.tmp _ _ rfl)) ?_;refine .p rfl (zG (.tmp _ _ rfl)) ?_
      
      refine zD (t:=34) rfl (λhg34=>?_) (λhg34=>?_)
      ·have hh34:=hg34;try simp only[aL]at hh34
       first|(refine .gp rfl rfl rfl aH (zA U61 rfl Z9 (.tmp _ _ rfl)) ?_)|(refine .gp rfl rfl rfl aH (zC U61 rfl Z9 (.tmp _ _ rfl)) ?_)
       first|(refine .gp rfl rfl rfl aH (zW G9 (.tmp _ _ rfl)) ?_)|(refine .gs rfl rfl rfl aH (zM G9 (.tmp _ _ rfl) (by first|assumption|exact(by assumption:Heap.le _ _).objs _ _ aB|exact oS _ _ _|exact(oN _ _ aB).trans (oS _ _ _)|exact(oN _ _ aB).trans ((oN _ _ aB).trans (oS _ _ _))|exact(oN _ _ aB).trans aB) rfl) ?_;rintro _ _ ⟨rfl,hH⟩;obtain rfl:=hH.symm)
       refine .gs rfl rfl rfl aH (zB call230 (.cons (.tmp _ _ rfl) (.cons (zO rfl) .nil)) (hasSuffixA _ _ _)) ?_;rintro _ _ ⟨rfl,hH⟩;obtain rfl:=hH.symm;refine .gp rfl rfl rfl aH (agL (.tmp _ _ rfl)) ?_;refine .p rfl (yI (.tmp _ _ rfl) aH (.tmp _ _ rfl)) ?_;refine .p rfl (zE (.tmp _ _ rfl)) ?_;refine .nil ?_;exact⟨rfl,zS rfl (by first|rfl|rfl|(simp[*];done)|simp_all) yF,rfl⟩
      have hh34:=hg34;try simp only[aL]at hh34
      refine .gn rfl rfl rfl aH ?_;refine .gn rfl rfl rfl aH ?_;refine .gn rfl rfl rfl aH ?_;refine .gn rfl rfl rfl aH ?_;refine .p rfl (yR (.tmp _ _ rfl) aH zT) ?_;refine .p rfl (zE (.tmp _ _ rfl)) ?_;refine .nil ?_;exact⟨rfl,zS rfl (by first|rfl|rfl|(simp[*];done)|simp_all) yF,rfl⟩
     have hh28:=hg28;try simp only[aL]at hh28
     refine .gn rfl rfl rfl aH ?_;refine .gn rfl rfl rfl aH ?_;refine .gn rfl rfl rfl aH ?_;refine .gn rfl rfl rfl aH ?_;refine .p rfl (yR (.tmp _ _ rfl) aH zT) ?_;refine .p rfl (zG (.tmp _ _ rfl)) ?_;refine .gn rfl rfl rfl aH ?_;refine .gn rfl rfl rfl aH ?_;refine .gn rfl rfl rfl aH ?_;refine .gn rfl rfl rfl aH ?_;refine .p rfl (yR (.tmp _ _ rfl) aH zT) ?_;refine .p rfl (zE (.tmp _ _ rfl)) ?_;refine .nil ?_;exact⟨rfl,zS rfl (by first|rfl|rfl|(simp[*];done)|simp_all) yF,rfl⟩
    have hh23:=hg23;try simp only[aL]at hh23
    refine .gn rfl rfl rfl aH ?_;refine .gn rfl rfl rfl aH ?_;refine .gn rfl rfl rfl aH ?_;refine .p rfl (yR (.tmp _ _ rfl) aH zT) ?_;refine .p rfl (zG (.tmp _ _ rfl)) ?_;refine .gn rfl rfl rfl aH ?_;refine .gn rfl rfl rfl aH ?_;refine .gn rfl rfl rfl aH ?_;refine .gn rfl rfl rfl aH ?_;refine .p rfl (yR (.tmp _ _ rfl) aH zT) ?_;refine .p rfl (zG (.tmp _ _ rfl)) ?_;refine .gn rfl rfl rfl aH ?_;refine .gn rfl rfl rfl aH ?_;refine .gn rfl rfl rfl aH ?_;refine .gn rfl rfl rfl aH ?_;refine .p rfl (yR (.tmp _ _ rfl) aH zT) ?_;refine .p rfl (zE (.tmp _ _ rfl)) ?_;refine .nil ?_;exact⟨rfl,zS rfl (by first|rfl|rfl|(simp[*];done)|simp_all) yF,rfl⟩
   have hh18:=hg18;try simp only[aL]at hh18
   refine .gn rfl rfl rfl aH ?_;refine .gn rfl rfl rfl aH ?_;refine .gn rfl rfl rfl aH ?_;refine .p rfl (yR (.tmp _ _ rfl) aH zT) ?_;refine .p rfl (zG (.tmp _ _ rfl)) ?_;refine .gn rfl rfl rfl aH ?_;refine .gn rfl rfl rfl aH ?_;refine .gn rfl rfl rfl aH ?_;refine .p rfl (yR (.tmp _ _ rfl) aH zT) ?_;refine .p rfl (zG (.tmp _ _ rfl)) ?_;refine .gn rfl rfl rfl aH ?_;refine .gn rfl rfl rfl aH ?_;refine .gn rfl rfl rfl aH ?_;refine .gn rfl rfl rfl aH ?_;refine .p rfl (yR (.tmp _ _ rfl) aH zT) ?_;refine .p rfl (zG (.tmp _ _ rfl)) ?_;refine .gn rfl rfl rfl aH ?_;refine .gn rfl rfl rfl aH ?_;refine .gn rfl rfl rfl aH ?_;refine .gn rfl rfl rfl aH ?_;refine .p rfl (yR (.tmp _ _ rfl) aH zT) ?_;refine .p rfl (zE (.tmp _ _ rfl)) ?_;refine .nil ?_;exact⟨rfl,zS rfl (by first|rfl|rfl|(simp[*];done)|simp_all) yF,rfl⟩
  have hh13:=hg13;try simp only[aL]at hh13
  refine .gn rfl rfl rfl aH ?_;refine .gn rfl rfl rfl aH ?_;refine .gn rfl rfl rfl aH ?_;refine .p rfl (yR (.tmp _ _ rfl) aH zT) ?_;refine .p rfl (zG (.tmp _ _ rfl)) ?_;refine .gn rfl rfl rfl aH ?_;refine .gn rfl rfl rfl aH ?_;refine .gn rfl rfl rfl aH ?_;refine .p rfl (yR (.tmp _ _ rfl) aH zT) ?_;refine .p rfl (zG (.tmp _ _ rfl)) ?_;refine .gn rfl rfl rfl aH ?_;refine .gn rfl rfl rfl aH ?_;refine .gn rfl rfl rfl aH ?_;refine .p rfl (yR (.tmp _ _ rfl) aH zT) ?_;refine .p rfl (zG (.tmp _ _ rfl)) ?_;refine .gn rfl rfl rfl aH ?_;refine .gn rfl rfl rfl aH ?_;refine .gn rfl rfl rfl aH ?_;refine .gn rfl rfl rfl aH ?_;refine .p rfl (yR (.tmp _ _ rfl) aH zT) ?_;refine .p rfl (zG (.tmp _ _ rfl)) ?_;refine .gn rfl rfl rfl aH ?_;refine .gn rfl rfl rfl aH ?_;refine .gn rfl rfl rfl aH ?_;refine .gn rfl rfl rfl aH ?_;refine .p rfl (yR (.tmp _ _ rfl) aH zT) ?_;refine .p rfl (zE (.tmp _ _ rfl)) ?_;refine .nil ?_;exact⟨rfl,zS rfl (by first|rfl|rfl|(simp[*];done)|simp_all) yF,rfl⟩
 refine .sub [(2,_)] (zK rfl yF) ?_;refine AX ?_
 
 refine AX ?_;refine⟨?_,rfl⟩;simp only[yT];rw[arE hc5,aeZ.2 hd,hsuf,Bool.and_true,Bool.and_true];rfl
def zU(ds:List UInt8)(e:Int):Int:=if yE ds e then(ds.length:Int)+e else 0
theorem bmE(ds:List UInt8)(e:Int):(decide ((1100:Int)<(ds.length:Int))||decide (e< -100000)||decide ((100000:Int)<e)||decide (((ds.getD 0 0).toNat:Int)=48)||decide (((ds.getD (ds.length-1) 0).toNat:Int)=48))= !arF ds e:=by
 unfold arF;rw[show decide ((1100:Int)<(ds.length:Int))= !decide ((ds.length:Int)≤1100) by rw[←decide_not];exact aQ.2 aA,
   show decide (e< -100000)= !decide (-100000≤e) by rw[←decide_not];exact aQ.2 aA,show decide ((100000:Int)<e)= !decide (e≤100000) by rw[←decide_not];exact aQ.2 aA,
   show decide (((ds.getD 0 0).toNat:Int)≠48)= !decide (((ds.getD 0 0).toNat:Int)=48)from decide_not]
 generalize decide ((ds.length:Int)≤1100)=a1;generalize decide (-100000≤e)=a2;generalize decide (e≤100000)=a3;generalize decide (((ds.getD 0 0).toNat:Int)=48)=a5;generalize decide (((ds.getD (ds.length-1) 0).toNat:Int)=48)=a6;cases a1<;>cases a2<;>cases a3<;>cases a5<;>cases a6<;>rfl
theorem acT(neg:Bool)(ds:List UInt8)(e:Int)(hd:Digs ds):Fn 88 [dA neg ds e] (.int .i64 (zU ds e)):=by
 intro H;refine .of_body func88 rfl ntmps88 results88 rfl ?_;refine AX ?_;refine AX ?_;refine .s rfl (acJ (.tmp _ _ rfl) (.inr ⟨_,rfl⟩)) ?_;rintro _ _ ⟨rfl,hH⟩;obtain rfl:=hH.symm;refine .p rfl (zE zJ) ?_;refine .nil ?_;iterate 3 refine AX ?_
 refine AX ?_;first|(refine .p rfl (afE G61 Z61 (.tmp _ _ rfl) (lB rfl)) ?_)|(refine .s rfl (qA G61 Z61 (.tmp _ _ rfl) (by first|assumption|exact(by assumption:Heap.le _ _).objs _ _ aB|exact oS _ _ _|exact(oN _ _ aB).trans (oS _ _ _)|exact(oN _ _ aB).trans ((oN _ _ aB).trans (oS _ _ _))|exact(oN _ _ aB).trans aB) (lB rfl)) ?_;rintro _ _ ⟨rfl,hH⟩;obtain rfl:=hH.symm)
 refine .s rfl (zB C152 (.cons (.tmp _ _ rfl) .nil) (adW neg ds e hd _)) ?_;rintro _ _ ⟨rfl,hH⟩;obtain rfl:=hH.symm;refine .p rfl (agL (.tmp _ _ rfl)) ?_;refine .nil ?_;refine AX ?_
 
 refine .cond (.tmp _ _ rfl) (λhc5=>?_) (λhc5=>?_)
 ·try simp only[aL]at hc5
  refine AX ?_;refine AX ?_;refine .p rfl (zE zJ) ?_;refine .nil ?_;iterate 3 refine AX ?_
  
  refine AX ?_;refine⟨?_,rfl⟩;unfold zU;rw[aM (by simp[hc5])];rfl
 try simp only[aL]at hc5
 have hrl:=yX (show yE ds e=true from by simpa using hc5);iterate 3 refine AX ?_
 refine AX ?_;first|(refine .p rfl (zA U61 rfl Z9 (.tmp _ _ rfl)) ?_)|(refine .p rfl (zC U61 rfl Z9 (.tmp _ _ rfl)) ?_)
 first|(refine .p rfl (zW G9 (.tmp _ _ rfl)) ?_)|(refine .s rfl (zM G9 (.tmp _ _ rfl) (by first|assumption|exact(by assumption:Heap.le _ _).objs _ _ aB|exact oS _ _ _|exact(oN _ _ aB).trans (oS _ _ _)|exact(oN _ _ aB).trans ((oN _ _ aB).trans (oS _ _ _))|exact(oN _ _ aB).trans aB) rfl) ?_;rintro _ _ ⟨rfl,hH⟩;obtain rfl:=hH.symm)
 refine .p rfl (aaP U9 (.tmp _ _ rfl)) ?_;first|(refine .p rfl (zA U61 rfl Z3 (.tmp _ _ rfl)) ?_)|(refine .p rfl (zC U61 rfl Z3 (.tmp _ _ rfl)) ?_)
 first|(refine .p rfl (zW G3 (.tmp _ _ rfl)) ?_)|(refine .s rfl (zM G3 (.tmp _ _ rfl) (by first|assumption|exact(by assumption:Heap.le _ _).objs _ _ aB|exact oS _ _ _|exact(oN _ _ aB).trans (oS _ _ _)|exact(oN _ _ aB).trans ((oN _ _ aB).trans (oS _ _ _))|exact(oN _ _ aB).trans aB) rfl) ?_;rintro _ _ ⟨rfl,hH⟩;obtain rfl:=hH.symm)
 refine .p rfl (yZ (.tmp _ _ rfl) (.tmp _ _ rfl) aA) ?_;refine .p rfl (zE (.tmp _ _ rfl)) ?_;refine .nil ?_;iterate 2 refine AX ?_
 
 refine AX ?_;refine⟨?_,rfl⟩;unfold zU;rw[aN (by simpa using hc5)];rfl
theorem aoR(b:UInt8):Fn 58 [.int .u8 ((b.toNat:Nat):Int)] (.bool (bxQ b)):=by
 intro H;refine .of_body func58 rfl ntmps58 results58 rfl ?_;refine AX ?_;refine AX ?_;refine .p rfl (zE zT) ?_;refine .nil ?_;refine AX ?_;refine .seqTo 2 (.bool (bxQ b)) [] ?_ ?_
 ·refine AX ?_;refine .p rfl (zG (.tmp _ _ rfl)) ?_;refine .p rfl (ajS (.tmp _ _ rfl) zJ) ?_;refine .p rfl (zG (.tmp _ _ rfl)) ?_
  
  refine zD (t:=5) rfl (λhg5=>?_) (λhg5=>?_)
  ·have hh5:=hg5;try simp only[aL]at hh5
   refine .gp rfl rfl rfl aH (zG (.tmp _ _ rfl)) ?_;refine .gp rfl rfl rfl aH (apQ (.tmp _ _ rfl) zJ) ?_;refine .p rfl (yI (.tmp _ _ rfl) aH (.tmp _ _ rfl)) ?_;refine .p rfl (zE (.tmp _ _ rfl)) ?_;refine .nil ?_;exact⟨rfl,zS rfl (by first|rfl|(unfold bxQ;rw[show decide ((48:Int)≤((b.toNat:Nat):Int))=_ from hg5];rfl)|(simp[*];done)|simp_all) yF,rfl⟩
  have hh5:=hg5;try simp only[aL]at hh5
  refine .gn rfl rfl rfl aH ?_;refine .gn rfl rfl rfl aH ?_;refine .p rfl (yR (.tmp _ _ rfl) aH zT) ?_;refine .p rfl (zE (.tmp _ _ rfl)) ?_;refine .nil ?_;exact⟨rfl,zS rfl (by first|rfl|(unfold bxQ;rw[show decide ((48:Int)≤((b.toNat:Nat):Int))=_ from hg5];rfl)|(simp[*];done)|simp_all) yF,rfl⟩
 refine .sub [(2,_)] (zK rfl yF) ?_;refine AX ?_
 
 refine AX ?_;exact⟨rfl,rfl⟩
def biV(neg:Bool)(ds:List UInt8)(e:Int)(H:Heap):Nat→Env→Heap→Prop:=λk env H1=>∃i:Nat,i≤ds.length∧awN (ds.take i)=true∧env=[(1,.iptr [.bool neg,.str ds,.int .i64 e]),(3,.int .i64 (ds.length:Int)),(4,.int .i64 (i:Int))]∧H=H1∧k=ds.length-i
theorem aoV(neg:Bool)(ds:List UInt8)(e:Int)(hl:ds.length≤maxLen):Fn 132 [dA neg ds e] (.bool (yE ds e)):=by
 intro H;rw[zQ]at hl;refine .of_body func132 rfl ntmps132 results132 rfl ?_;refine AX ?_;refine AX ?_;refine .s rfl (acJ (.tmp _ _ rfl) (.inr ⟨_,rfl⟩)) ?_;rintro _ _ ⟨rfl,hH⟩;obtain rfl:=hH.symm;refine .p rfl (zE zT) ?_;refine .nil ?_;iterate 2 refine AX ?_
 refine AX ?_;first|(refine .p rfl (zA U61 rfl Z9 (.tmp _ _ rfl)) ?_)|(refine .p rfl (zC U61 rfl Z9 (.tmp _ _ rfl)) ?_)
 first|(refine .p rfl (zW G9 (.tmp _ _ rfl)) ?_)|(refine .s rfl (zM G9 (.tmp _ _ rfl) (by first|assumption|exact(by assumption:Heap.le _ _).objs _ _ aB|exact oS _ _ _|exact(oN _ _ aB).trans (oS _ _ _)|exact(oN _ _ aB).trans ((oN _ _ aB).trans (oS _ _ _))|exact(oN _ _ aB).trans aB) rfl) ?_;rintro _ _ ⟨rfl,hH⟩;obtain rfl:=hH.symm)
 refine .p rfl (aaP U9 (.tmp _ _ rfl)) ?_;refine .p rfl (zE (.tmp _ _ rfl)) ?_;refine .nil ?_;iterate 3 refine AX ?_
 refine AX ?_;refine .p rfl (zG (.tmp _ _ rfl)) ?_;refine .p rfl (acE (.tmp _ _ rfl) zJ) ?_;refine .nil ?_;refine AX ?_
 
 refine .cond (.tmp _ _ rfl) (λhc10=>?_) (λhc10=>?_)
 ·try simp only[aL]at hc10
  refine AX ?_;refine AX ?_;first|(refine .p rfl (zA U61 rfl Z3 (.tmp _ _ rfl)) ?_)|(refine .p rfl (zC U61 rfl Z3 (.tmp _ _ rfl)) ?_)
  first|(refine .p rfl (zW G3 (.tmp _ _ rfl)) ?_)|(refine .s rfl (zM G3 (.tmp _ _ rfl) (by first|assumption|exact(by assumption:Heap.le _ _).objs _ _ aB|exact oS _ _ _|exact(oN _ _ aB).trans (oS _ _ _)|exact(oN _ _ aB).trans ((oN _ _ aB).trans (oS _ _ _))|exact(oN _ _ aB).trans aB) rfl) ?_;rintro _ _ ⟨rfl,hH⟩;obtain rfl:=hH.symm)
  refine .p rfl (acE (.tmp _ _ rfl) zJ) ?_;refine .p rfl (zE (.tmp _ _ rfl)) ?_;refine .nil ?_;iterate 3 refine AX ?_
  
  refine AX ?_;refine⟨?_,rfl⟩;have h0:ds=[]:=dI.1 aA;unfold yE;rw[aN h0];rfl
 try simp only[aL]at hc10
 have hlp:0<ds.length:=by omega
 have hne:=bV.1 hlp;have hrq:=arE (e:=e) hne;have hrn:=bmE ds e;iterate 3 refine AX ?_
 refine .seqTo 39 (.bool ((decide ((1100:Int)<(ds.length:Int))||decide (e< -100000)||decide ((100000:Int)<e)||decide (((ds.getD 0 0).toNat:Int)=48)||decide (((ds.getD (ds.length-1) 0).toNat:Int)=48)))) [1,2,3] ?_ ?_
 ·refine AX ?_;refine .p rfl (zG (.tmp _ _ rfl)) ?_;refine .p rfl (abH (.tmp _ _ rfl) zJ) ?_;refine .p rfl (zG (.tmp _ _ rfl)) ?_
  
  refine zD (t:=16) rfl (λhg16=>?_) (λhg16=>?_)
  ·have hh16:=hg16;try simp only[aL]at hh16
   refine .gn rfl rfl rfl aH ?_;refine .gn rfl rfl rfl aH ?_;refine .gn rfl rfl rfl aH ?_;refine .p rfl (yI (.tmp _ _ rfl) aH zT) ?_;refine .p rfl (zG (.tmp _ _ rfl)) ?_;refine .gn rfl rfl rfl aH ?_;refine .gn rfl rfl rfl aH ?_;refine .gn rfl rfl rfl aH ?_;refine .p rfl (yI (.tmp _ _ rfl) aH zT) ?_;refine .p rfl (zG (.tmp _ _ rfl)) ?_;refine .gn rfl rfl rfl aH ?_;refine .gn rfl rfl rfl aH ?_;refine .gn rfl rfl rfl aH ?_;refine .gn rfl rfl rfl aH ?_;refine .p rfl (yI (.tmp _ _ rfl) aH zT) ?_;refine .p rfl (zG (.tmp _ _ rfl)) ?_;refine .gn rfl rfl rfl aH ?_;refine .gn rfl rfl rfl aH ?_;refine .gn rfl rfl rfl aH ?_;refine .gn rfl rfl rfl aH ?_;refine .gn rfl rfl rfl aH ?_;refine .gn rfl rfl rfl aH ?_;refine .p rfl (yI (.tmp _ _ rfl) aH zT) ?_;refine .nil ?_;exact⟨rfl,zS rfl (by first|rfl|(rw[show decide ((1100:Int)<(ds.length:Int))=_ from hg16];rfl)|(rw[show decide ((1100:Int)<(ds.length:Int))=_ from hg16,show decide (e< -100000)=_ from hg21];rfl)|(rw[show decide ((1100:Int)<(ds.length:Int))=_ from hg16,show decide (e< -100000)=_ from hg21,show decide ((100000:Int)<e)=_ from hg26];rfl)|(rw[show decide ((1100:Int)<(ds.length:Int))=_ from hg16,show decide (e< -100000)=_ from hg21,show decide ((100000:Int)<e)=_ from hg26,show decide (((ds.getD 0 0).toNat:Int)=48)=_ from hg32];rfl)|(rw[show decide ((1100:Int)<(ds.length:Int))=_ from hg16,show decide (e< -100000)=_ from hg21,show decide ((100000:Int)<e)=_ from hg26,show decide (((ds.getD 0 0).toNat:Int)=48)=_ from hg32,show((ds.length:Int)-1).toNat=ds.length-1 by omega];rfl)|(simp[*];done)|simp_all) sX,rfl⟩
  have hh16:=hg16;try simp only[aL]at hh16
  first|(refine .gp rfl rfl rfl aH (zA U61 rfl Z3 (.tmp _ _ rfl)) ?_)|(refine .gp rfl rfl rfl aH (zC U61 rfl Z3 (.tmp _ _ rfl)) ?_)
  first|(refine .gp rfl rfl rfl aH (zW G3 (.tmp _ _ rfl)) ?_)|(refine .gs rfl rfl rfl aH (zM G3 (.tmp _ _ rfl) (by first|assumption|exact(by assumption:Heap.le _ _).objs _ _ aB|exact oS _ _ _|exact(oN _ _ aB).trans (oS _ _ _)|exact(oN _ _ aB).trans ((oN _ _ aB).trans (oS _ _ _))|exact(oN _ _ aB).trans aB) rfl) ?_;rintro _ _ ⟨rfl,hH⟩;obtain rfl:=hH.symm)
  refine .gp rfl rfl rfl aH (aaH (.tmp _ _ rfl) zJ) ?_;refine .p rfl (yR (.tmp _ _ rfl) aH (.tmp _ _ rfl)) ?_;refine .p rfl (zG (.tmp _ _ rfl)) ?_
  
  refine zD (t:=21) rfl (λhg21=>?_) (λhg21=>?_)
  ·have hh21:=hg21;try simp only[aL]at hh21
   refine .gn rfl rfl rfl aH ?_;refine .gn rfl rfl rfl aH ?_;refine .gn rfl rfl rfl aH ?_;refine .p rfl (yI (.tmp _ _ rfl) aH zT) ?_;refine .p rfl (zG (.tmp _ _ rfl)) ?_;refine .gn rfl rfl rfl aH ?_;refine .gn rfl rfl rfl aH ?_;refine .gn rfl rfl rfl aH ?_;refine .gn rfl rfl rfl aH ?_;refine .p rfl (yI (.tmp _ _ rfl) aH zT) ?_;refine .p rfl (zG (.tmp _ _ rfl)) ?_;refine .gn rfl rfl rfl aH ?_;refine .gn rfl rfl rfl aH ?_;refine .gn rfl rfl rfl aH ?_;refine .gn rfl rfl rfl aH ?_;refine .gn rfl rfl rfl aH ?_;refine .gn rfl rfl rfl aH ?_;refine .p rfl (yI (.tmp _ _ rfl) aH zT) ?_;refine .nil ?_;exact⟨rfl,zS rfl (by first|rfl|(rw[show decide ((1100:Int)<(ds.length:Int))=_ from hg16];rfl)|(rw[show decide ((1100:Int)<(ds.length:Int))=_ from hg16,show decide (e< -100000)=_ from hg21];rfl)|(rw[show decide ((1100:Int)<(ds.length:Int))=_ from hg16,show decide (e< -100000)=_ from hg21,show decide ((100000:Int)<e)=_ from hg26];rfl)|(rw[show decide ((1100:Int)<(ds.length:Int))=_ from hg16,show decide (e< -100000)=_ from hg21,show decide ((100000:Int)<e)=_ from hg26,show decide (((ds.getD 0 0).toNat:Int)=48)=_ from hg32];rfl)|(rw[show decide ((1100:Int)<(ds.length:Int))=_ from hg16,show decide (e< -100000)=_ from hg21,show decide ((100000:Int)<e)=_ from hg26,show decide (((ds.getD 0 0).toNat:Int)=48)=_ from hg32,show((ds.length:Int)-1).toNat=ds.length-1 by omega];rfl)|(simp[*];done)|simp_all) sX,rfl⟩
  have hh21:=hg21;try simp only[aL]at hh21
  first|(refine .gp rfl rfl rfl aH (zA U61 rfl Z3 (.tmp _ _ rfl)) ?_)|(refine .gp rfl rfl rfl aH (zC U61 rfl Z3 (.tmp _ _ rfl)) ?_)
  first|(refine .gp rfl rfl rfl aH (zW G3 (.tmp _ _ rfl)) ?_)|(refine .gs rfl rfl rfl aH (zM G3 (.tmp _ _ rfl) (by first|assumption|exact(by assumption:Heap.le _ _).objs _ _ aB|exact oS _ _ _|exact(oN _ _ aB).trans (oS _ _ _)|exact(oN _ _ aB).trans ((oN _ _ aB).trans (oS _ _ _))|exact(oN _ _ aB).trans aB) rfl) ?_;rintro _ _ ⟨rfl,hH⟩;obtain rfl:=hH.symm)
  refine .gp rfl rfl rfl aH (abH (.tmp _ _ rfl) zJ) ?_;refine .p rfl (yR (.tmp _ _ rfl) aH (.tmp _ _ rfl)) ?_;refine .p rfl (zG (.tmp _ _ rfl)) ?_
  
  refine zD (t:=26) rfl (λhg26=>?_) (λhg26=>?_)
  ·have hh26:=hg26;try simp only[aL]at hh26
   refine .gn rfl rfl rfl aH ?_;refine .gn rfl rfl rfl aH ?_;refine .gn rfl rfl rfl aH ?_;refine .gn rfl rfl rfl aH ?_;refine .p rfl (yI (.tmp _ _ rfl) aH zT) ?_;refine .p rfl (zG (.tmp _ _ rfl)) ?_;refine .gn rfl rfl rfl aH ?_;refine .gn rfl rfl rfl aH ?_;refine .gn rfl rfl rfl aH ?_;refine .gn rfl rfl rfl aH ?_;refine .gn rfl rfl rfl aH ?_;refine .gn rfl rfl rfl aH ?_;refine .p rfl (yI (.tmp _ _ rfl) aH zT) ?_;refine .nil ?_;exact⟨rfl,zS rfl (by first|rfl|(rw[show decide ((1100:Int)<(ds.length:Int))=_ from hg16];rfl)|(rw[show decide ((1100:Int)<(ds.length:Int))=_ from hg16,show decide (e< -100000)=_ from hg21];rfl)|(rw[show decide ((1100:Int)<(ds.length:Int))=_ from hg16,show decide (e< -100000)=_ from hg21,show decide ((100000:Int)<e)=_ from hg26];rfl)|(rw[show decide ((1100:Int)<(ds.length:Int))=_ from hg16,show decide (e< -100000)=_ from hg21,show decide ((100000:Int)<e)=_ from hg26,show decide (((ds.getD 0 0).toNat:Int)=48)=_ from hg32];rfl)|(rw[show decide ((1100:Int)<(ds.length:Int))=_ from hg16,show decide (e< -100000)=_ from hg21,show decide ((100000:Int)<e)=_ from hg26,show decide (((ds.getD 0 0).toNat:Int)=48)=_ from hg32,show((ds.length:Int)-1).toNat=ds.length-1 by omega];rfl)|(simp[*];done)|simp_all) sX,rfl⟩
  have hh26:=hg26;try simp only[aL]at hh26
  first|(refine .gp rfl rfl rfl aH (zA U61 rfl Z9 (.tmp _ _ rfl)) ?_)|(refine .gp rfl rfl rfl aH (zC U61 rfl Z9 (.tmp _ _ rfl)) ?_)
  first|(refine .gp rfl rfl rfl aH (zW G9 (.tmp _ _ rfl)) ?_)|(refine .gs rfl rfl rfl aH (zM G9 (.tmp _ _ rfl) (by first|assumption|exact(by assumption:Heap.le _ _).objs _ _ aB|exact oS _ _ _|exact(oN _ _ aB).trans (oS _ _ _)|exact(oN _ _ aB).trans ((oN _ _ aB).trans (oS _ _ _))|exact(oN _ _ aB).trans aB) rfl) ?_;rintro _ _ ⟨rfl,hH⟩;obtain rfl:=hH.symm)
  refine .gp rfl rfl rfl aH (qQ U9 (.tmp _ _ rfl) zJ aA aA) ?_;refine .gp rfl rfl rfl aH (acE (.tmp _ _ rfl) zJ) ?_;refine .p rfl (yR (.tmp _ _ rfl) aH (.tmp _ _ rfl)) ?_;refine .p rfl (zG (.tmp _ _ rfl)) ?_
  
  refine zD (t:=32) rfl (λhg32=>?_) (λhg32=>?_)
  ·have hh32:=hg32;try simp only[aL]at hh32
   refine .gn rfl rfl rfl aH ?_;refine .gn rfl rfl rfl aH ?_;refine .gn rfl rfl rfl aH ?_;refine .gn rfl rfl rfl aH ?_;refine .gn rfl rfl rfl aH ?_;refine .gn rfl rfl rfl aH ?_;refine .p rfl (yI (.tmp _ _ rfl) aH zT) ?_;refine .nil ?_;exact⟨rfl,zS rfl (by first|rfl|(rw[show decide ((1100:Int)<(ds.length:Int))=_ from hg16];rfl)|(rw[show decide ((1100:Int)<(ds.length:Int))=_ from hg16,show decide (e< -100000)=_ from hg21];rfl)|(rw[show decide ((1100:Int)<(ds.length:Int))=_ from hg16,show decide (e< -100000)=_ from hg21,show decide ((100000:Int)<e)=_ from hg26];rfl)|(rw[show decide ((1100:Int)<(ds.length:Int))=_ from hg16,show decide (e< -100000)=_ from hg21,show decide ((100000:Int)<e)=_ from hg26,show decide (((ds.getD 0 0).toNat:Int)=48)=_ from hg32];rfl)|(rw[show decide ((1100:Int)<(ds.length:Int))=_ from hg16,show decide (e< -100000)=_ from hg21,show decide ((100000:Int)<e)=_ from hg26,show decide (((ds.getD 0 0).toNat:Int)=48)=_ from hg32,show((ds.length:Int)-1).toNat=ds.length-1 by omega];rfl)|(simp[*];done)|simp_all) sX,rfl⟩
  have hh32:=hg32;try simp only[aL]at hh32
  first|(refine .gp rfl rfl rfl aH (zA U61 rfl Z9 (.tmp _ _ rfl)) ?_)|(refine .gp rfl rfl rfl aH (zC U61 rfl Z9 (.tmp _ _ rfl)) ?_)
  first|(refine .gp rfl rfl rfl aH (zW G9 (.tmp _ _ rfl)) ?_)|(refine .gs rfl rfl rfl aH (zM G9 (.tmp _ _ rfl) (by first|assumption|exact(by assumption:Heap.le _ _).objs _ _ aB|exact oS _ _ _|exact(oN _ _ aB).trans (oS _ _ _)|exact(oN _ _ aB).trans ((oN _ _ aB).trans (oS _ _ _))|exact(oN _ _ aB).trans aB) rfl) ?_;rintro _ _ ⟨rfl,hH⟩;obtain rfl:=hH.symm)
  refine .gp rfl rfl rfl aH (zG (.tmp _ _ rfl)) ?_;refine .gp rfl rfl rfl aH (qK (.tmp _ _ rfl) zJ aA) ?_;refine .gp rfl rfl rfl aH (qQ U9 (.tmp _ _ rfl) (.tmp _ _ rfl) aA aA) ?_;refine .gp rfl rfl rfl aH (acE (.tmp _ _ rfl) zJ) ?_;refine .p rfl (yR (.tmp _ _ rfl) aH (.tmp _ _ rfl)) ?_;refine .nil ?_;exact⟨rfl,zS rfl (by first|rfl|(rw[show decide ((1100:Int)<(ds.length:Int))=_ from hg16];rfl)|(rw[show decide ((1100:Int)<(ds.length:Int))=_ from hg16,show decide (e< -100000)=_ from hg21];rfl)|(rw[show decide ((1100:Int)<(ds.length:Int))=_ from hg16,show decide (e< -100000)=_ from hg21,show decide ((100000:Int)<e)=_ from hg26];rfl)|(rw[show decide ((1100:Int)<(ds.length:Int))=_ from hg16,show decide (e< -100000)=_ from hg21,show decide ((100000:Int)<e)=_ from hg26,show decide (((ds.getD 0 0).toNat:Int)=48)=_ from hg32];rfl)|(rw[show decide ((1100:Int)<(ds.length:Int))=_ from hg16,show decide (e< -100000)=_ from hg21,show decide ((100000:Int)<e)=_ from hg26,show decide (((ds.getD 0 0).toNat:Int)=48)=_ from hg32,show((ds.length:Int)-1).toNat=ds.length-1 by omega];rfl)|(simp[*];done)|simp_all) sX,rfl⟩
 refine .sub [(39,_),(1,_),(2,_),(3,_)] sX ?_
 
 refine .cond (.tmp _ _ rfl) (λhc39=>?_) (λhc39=>?_)
 ·try simp only[aL]at hc39
  rw[hrn]at hc39;have hrc:arF ds e=false:=by simpa using hc39
  refine AX ?_;refine AX ?_;refine .p rfl (zE zT) ?_;refine .nil ?_;iterate 3 refine AX ?_
  
  refine AX ?_;refine⟨?_,rfl⟩;rw[hrq,hrc];rfl
 try simp only[aL]at hc39
 rw[hrn]at hc39;have hrc:arF ds e=true:=by simpa using hc39
 iterate 4 refine AX ?_
 refine AX ?_;refine .p rfl (zE zJ) ?_;refine .nil ?_;iterate 2 refine AX ?_
 
 refine .loopW (biV neg ds e H) (ds.length) ⟨0,Nat.zero_le _,rfl,rfl,rfl,rfl⟩ sX (hRa _) ?_;rintro _ _ _ ⟨i,hi,hdg,rfl,rfl,hk⟩;iterate 2 refine AX ?_
 refine AX ?_;refine .p rfl (zG (.tmp _ _ rfl)) ?_;refine .p rfl (zG (.tmp _ _ rfl)) ?_;refine .p rfl (aaH (.tmp _ _ rfl) (.tmp _ _ rfl)) ?_;refine .nil ?_;refine AX ?_
 
 refine .cond (.tmp _ _ rfl) (λhc42=>?_) (λhc42=>?_)
 ·try simp only[aL]at hc42
  have hdt:=bwD (ds:=ds) aA hdg;iterate 5 refine AX ?_
  refine AX ?_;first|(refine .p rfl (zA U61 rfl Z9 (.tmp _ _ rfl)) ?_)|(refine .p rfl (zC U61 rfl Z9 (.tmp _ _ rfl)) ?_)
  first|(refine .p rfl (zW G9 (.tmp _ _ rfl)) ?_)|(refine .s rfl (zM G9 (.tmp _ _ rfl) (by first|assumption|exact(by assumption:Heap.le _ _).objs _ _ aB|exact oS _ _ _|exact(oN _ _ aB).trans (oS _ _ _)|exact(oN _ _ aB).trans ((oN _ _ aB).trans (oS _ _ _))|exact(oN _ _ aB).trans aB) rfl) ?_;rintro _ _ ⟨rfl,hH⟩;obtain rfl:=hH.symm)
  refine .p rfl (zG (.tmp _ _ rfl)) ?_;refine .p rfl (qQ U9 (.tmp _ _ rfl) (.tmp _ _ rfl) aA aA) ?_;refine .s rfl (zB call58 (.cons (.tmp _ _ rfl) .nil) (aoR _ _)) ?_;rintro _ _ ⟨rfl,hH⟩;obtain rfl:=hH.symm;refine .p rfl (zE (.tmp _ _ rfl)) ?_;refine .nil ?_;iterate 2 refine AX ?_
  refine AX ?_;refine .p rfl (zG (.tmp _ _ rfl)) ?_;refine .p rfl (agL (.tmp _ _ rfl)) ?_;refine .nil ?_;refine AX ?_
  
  refine .cond (.tmp _ _ rfl) (λhc51=>?_) (λhc51=>?_)
  ·try simp only[aL]at hc51
   have hdf:bxQ (ds.getD i 0)=false:=by simpa using hc51
   refine AX ?_;refine AX ?_;refine .p rfl (zE zT) ?_;refine .nil ?_;iterate 7 refine AX ?_
   
   refine AX ?_;refine⟨?_,rfl⟩;have hdb:awN ds=false:=by
    cases h:awN ds with
    |false=>rfl
    |true=>have:=bcW (i:=i+1) h;rw[hdt,hdf]at this;cases this
   rw[hrq,hdb,Bool.and_false];rfl
  try simp only[aL]at hc51
  have hdf:bxQ (ds.getD i 0)=true:=by simpa using hc51
  iterate 3 refine AX ?_
  refine AX ?_;refine .p rfl (zG (.tmp _ _ rfl)) ?_;refine .p rfl (yZ (.tmp _ _ rfl) zJ aA) ?_;refine .p rfl (zE (.tmp _ _ rfl)) ?_;refine .nil ?_;refine AX ?_;refine Round.mk ⟨i+1,by omega,by rw[hdt,hdf],rfl,rfl,rfl⟩ sX (hRa _) aA
 try simp only[aL]at hc42
 iterate 6 refine AX ?_
 refine AX ?_;refine .p rfl (zE zT) ?_;refine .nil ?_;iterate 2 refine AX ?_
 
 refine AX ?_;refine⟨?_,rfl⟩;rw[aY aA]at hdg;rw[hrq,hrc,hdg];rfl
theorem aoW(neg:Bool)(ds:List UInt8)(e:Int)(hl:ds.length≤maxLen):Fn 73 [dA neg ds e] (.int .i64 (zU ds e)):=by
 intro H;refine .of_body func73 rfl ntmps73 results73 rfl ?_;refine AX ?_;refine AX ?_;refine .s rfl (acJ (.tmp _ _ rfl) (.inr ⟨_,rfl⟩)) ?_;rintro _ _ ⟨rfl,hH⟩;obtain rfl:=hH.symm;refine .p rfl (zE zJ) ?_;refine .nil ?_;iterate 2 refine AX ?_
 refine AX ?_;first|(refine .p rfl (afE G61 Z61 (.tmp _ _ rfl) (lB rfl)) ?_)|(refine .s rfl (qA G61 Z61 (.tmp _ _ rfl) (by first|assumption|exact(by assumption:Heap.le _ _).objs _ _ aB|exact oS _ _ _|exact(oN _ _ aB).trans (oS _ _ _)|exact(oN _ _ aB).trans ((oN _ _ aB).trans (oS _ _ _))|exact(oN _ _ aB).trans aB) (lB rfl)) ?_;rintro _ _ ⟨rfl,hH⟩;obtain rfl:=hH.symm)
 refine .s rfl (zB call132 (.cons (.tmp _ _ rfl) .nil) (aoV neg ds e hl _)) ?_;rintro _ _ ⟨rfl,hH⟩;obtain rfl:=hH.symm;refine .p rfl (zE (.tmp _ _ rfl)) ?_;refine .nil ?_;iterate 3 refine AX ?_
 refine AX ?_;refine .p rfl (zG (.tmp _ _ rfl)) ?_;refine .p rfl (agL (.tmp _ _ rfl)) ?_;refine .nil ?_;refine AX ?_
 
 refine .cond (.tmp _ _ rfl) (λhc7=>?_) (λhc7=>?_)
 ·try simp only[aL]at hc7
  refine AX ?_;refine AX ?_;refine .p rfl (zE zJ) ?_;refine .nil ?_;iterate 3 refine AX ?_
  
  refine AX ?_;refine⟨?_,rfl⟩;unfold zU;rw[aM (by simp[hc7])];rfl
 try simp only[aL]at hc7
 have hrl:=yX (show yE ds e=true from by simpa using hc7);iterate 3 refine AX ?_
 refine AX ?_;first|(refine .p rfl (zA U61 rfl Z9 (.tmp _ _ rfl)) ?_)|(refine .p rfl (zC U61 rfl Z9 (.tmp _ _ rfl)) ?_)
 first|(refine .p rfl (zW G9 (.tmp _ _ rfl)) ?_)|(refine .s rfl (zM G9 (.tmp _ _ rfl) (by first|assumption|exact(by assumption:Heap.le _ _).objs _ _ aB|exact oS _ _ _|exact(oN _ _ aB).trans (oS _ _ _)|exact(oN _ _ aB).trans ((oN _ _ aB).trans (oS _ _ _))|exact(oN _ _ aB).trans aB) rfl) ?_;rintro _ _ ⟨rfl,hH⟩;obtain rfl:=hH.symm)
 refine .p rfl (aaP U9 (.tmp _ _ rfl)) ?_;first|(refine .p rfl (zA U61 rfl Z3 (.tmp _ _ rfl)) ?_)|(refine .p rfl (zC U61 rfl Z3 (.tmp _ _ rfl)) ?_)
 first|(refine .p rfl (zW G3 (.tmp _ _ rfl)) ?_)|(refine .s rfl (zM G3 (.tmp _ _ rfl) (by first|assumption|exact(by assumption:Heap.le _ _).objs _ _ aB|exact oS _ _ _|exact(oN _ _ aB).trans (oS _ _ _)|exact(oN _ _ aB).trans ((oN _ _ aB).trans (oS _ _ _))|exact(oN _ _ aB).trans aB) rfl) ?_;rintro _ _ ⟨rfl,hH⟩;obtain rfl:=hH.symm)
 refine .p rfl (yZ (.tmp _ _ rfl) (.tmp _ _ rfl) aA) ?_;refine .p rfl (zE (.tmp _ _ rfl)) ?_;refine .nil ?_;iterate 2 refine AX ?_
 
 refine AX ?_;refine⟨?_,rfl⟩;unfold zU;rw[aN (by simpa using hc7)];rfl
end
section
open Go Go.RowKit
set_option maxRecDepth 100000
theorem awK{l:List UInt8}{c:UInt8}(hi:i≤l.length)(h1:∀q,q<i→l.getD q 0=c)(h2:i<l.length→l.getD i 0≠c):l.dropWhile (·==c)=l.drop i:=by
 induction l generalizing i with
 |nil=>simp
 |cons x l ih=>
  cases i with
  |zero=>
   have:=h2 aF;have hx:x≠c:=by simpa using this
   rw[eC,aM (by simpa using hx),dL]
  |succ i=>
   have h0:x=c:=by simpa using h1 0 aA
   rw[eC,aN (by simpa using h0),List.drop_succ_cons];exact ih (by simpa using hi) (λq hq=>by simpa using h1 (q+1) aA) (λhq=>by simpa using h2 (by simpa using hq))
theorem auK{l:List UInt8}{c:UInt8}{m:Nat}(hm:m≤l.length)(h1:∀q,m≤q→q<l.length→l.getD q 0=c)(h2:0<m→l.getD (m-1) 0≠c):Lib.trimRightB l c=l.take m:=by
 unfold Lib.trimRightB;have e:l.reverse.dropWhile (·==c)=l.reverse.drop (l.length-m):=by
  have hr:∀q,q<l.length→l.reverse.getD q 0=l.getD (l.length-1-q) 0:=λq hq=>by
   rw[aP,aP,List.getElem?_reverse hq]
  refine awK aF (λq hq=>?_) (λhq=>?_)
  ·rw[hr q aA];exact h1 _ aA aA
  rw[fJ]at hq;rw[hr _ hq,show l.length-1-(l.length-m)=m-1 by omega];exact h2 aA
 rw[e,List.drop_reverse,List.reverse_reverse,show l.length-(l.length-m)=m by omega]
theorem bpE{j:Nat}(hi:i≤ds.length)(hij:i≤j)(hj:j≤ds.length)(h1:∀q,q<i→ds.getD q 0=48)(h2:i<ds.length→ds.getD i 0≠48)(h3:∀q,j≤q→q<ds.length→ds.getD q 0=48)(h4:i<j→ds.getD (j-1) 0≠48):
  abE ds=(ds.take j).drop i∧(abE ds).length=j-i∧adT ds=ds.length-j:=by
 have e1:akP ds=ds.drop i:=awK hi h1 h2;have hg:∀q,(ds.drop i).getD q 0=ds.getD (i+q) 0:=λq=>by
  rw[aP,aP,eK]
 have e2:abE ds=(ds.drop i).take (j-i):=by
  unfold abE;rw[e1];refine auK aG (λq hq hl=>?_) (λhq=>?_)
  ·rw[hg];simp at hl;exact h3 _ aA aA
  rw[hg,show i+(j-i-1)=j-1 by omega];exact h4 aA
 have e3:abE ds=(ds.take j).drop i:=by rw[e2,List.drop_take]
 have e4:(abE ds).length=j-i:=by rw[e2,aV,bO];omega
 refine⟨e3,e4,?_⟩;unfold adT;rw[e4,e1,bO];omega
theorem akK(neg:Bool)(ds:List UInt8)(e:Int)(hd:Digs ds)(hl:ds.length≤100000)(he: -1000000000000≤e∧e≤1000000000000):Fn 71 [.bool neg,.str ds,.int .i64 e] (dT (mkN neg ds e)):=by
 intro H;have hlo:=asS ds 48;have hml:=afK (ds.dropWhile (·==48)) 48;have hmo:e+(((ds.dropWhile (·==48)).length:Int)-((Lib.trimRightB (ds.dropWhile (·==48)) 48).length:Int))=e+(adT ds:Int):=by unfold adT abE akP;omega
 have hdc:Digs (Lib.trimRightB (ds.dropWhile (·==48)) 48):=(hd.dropWhile _).trimR _;refine .of_body func71 rfl ntmps71 results71 rfl ?_;refine AX ?_;refine AX ?_;refine .s rfl (adL zr61) ?_;rintro _ _ ⟨b6,hb6,rfl,hH⟩;obtain rfl:=hH.symm;refine .p rfl (zE zJ) ?_;refine .nil ?_;iterate 3 refine AX ?_
 refine AX ?_;refine .p rfl (zG (.tmp _ _ rfl)) ?_;refine .s rfl (zB call150 (.cons (.tmp _ _ rfl) .nil) (arU ds hd _)) ?_;rintro _ _ ⟨rfl,hH⟩;obtain rfl:=hH.symm;refine .p rfl (agL (.tmp _ _ rfl)) ?_;refine .nil ?_;refine AX ?_
 
 refine .cond_false (.tmp _ _ rfl) aD ?_;iterate 3 refine AX ?_
 refine AX ?_;refine .p rfl (zG (.tmp _ _ rfl)) ?_;refine .s rfl (zB call108 (.cons (.tmp _ _ rfl) (.cons (zO rfl) .nil)) (trimLeftA 48 aC _ _)) ?_;rintro _ _ ⟨rfl,hH⟩;obtain rfl:=hH.symm;refine .p rfl (zE (.tmp _ _ rfl)) ?_;refine .nil ?_;iterate 2 refine AX ?_
 refine AX ?_;refine .p rfl (zG (.tmp _ _ rfl)) ?_;refine .p rfl (zG (.tmp _ _ rfl)) ?_;refine .s rfl (zB call151 (.cons (.tmp _ _ rfl) (.cons (zO rfl) .nil)) (trimRightA 48 aC _ _)) ?_;rintro _ _ ⟨rfl,hH⟩;obtain rfl:=hH.symm;refine .p rfl (yU zr61 pl61 (.cons (.tmp _ _ rfl) (.inl rfl) (.cons (.tmp _ _ rfl) (.inl rfl) .nil)) rfl) ?_;refine .s rfl (adL zr61) ?_;rintro _ _ ⟨b9,hb9,rfl,hH⟩;obtain rfl:=hH.symm;have hn6_9:=Heap.ne_of (by first|assumption|exact(by assumption:Heap.le _ _).objs _ _ aB|exact oS _ _ _|exact(oN _ _ aB).trans (oS _ _ _)|exact(oN _ _ aB).trans ((oN _ _ aB).trans (oS _ _ _))|exact(oN _ _ aB).trans aB) hb9;refine .s0 (zL Z61 (.tmp _ _ rfl) (.tmp _ _ rfl) rfl rfl (.inr ⟨_,rfl⟩) (by first|assumption|exact(by assumption:Heap.le _ _).objs _ _ aB|exact oS _ _ _|exact(oN _ _ aB).trans (oS _ _ _)|exact(oN _ _ aB).trans ((oN _ _ aB).trans (oS _ _ _))|exact(oN _ _ aB).trans aB) (lB rfl)) ?_;rintro _ _ ⟨rfl,hH⟩;obtain rfl:=hH.symm;try first|rw[sS]|rw[sU aB]
 refine .nil ?_;iterate 3 refine AX ?_
 refine AX ?_;first|(refine .p rfl (zA U61 rfl Z9 (.tmp _ _ rfl)) ?_)|(refine .p rfl (zC U61 rfl Z9 (.tmp _ _ rfl)) ?_)
 first|(refine .p rfl (zW G9 (.tmp _ _ rfl)) ?_)|(refine .s rfl (zM G9 (.tmp _ _ rfl) (by first|assumption|exact(by assumption:Heap.le _ _).objs _ _ aB|exact oS _ _ _|exact(oN _ _ aB).trans (oS _ _ _)|exact(oN _ _ aB).trans ((oN _ _ aB).trans (oS _ _ _))|exact(oN _ _ aB).trans aB) rfl) ?_;rintro _ _ ⟨rfl,hH⟩;obtain rfl:=hH.symm)
 refine .p rfl (alK (.tmp _ _ rfl) (zO rfl)) ?_;refine .nil ?_;refine AX ?_
 
 refine .cond (.tmp _ _ rfl) (λhc22=>?_) (λhc22=>?_)
 ·try simp only[aL]at hc22
  refine AX ?_;refine AX ?_;first|(refine .p rfl (afE G61 Z61 (.tmp _ _ rfl) (lB rfl)) ?_)|(refine .s rfl (qA G61 Z61 (.tmp _ _ rfl) (by first|assumption|exact(by assumption:Heap.le _ _).objs _ _ aB|exact oS _ _ _|exact(oN _ _ aB).trans (oS _ _ _)|exact(oN _ _ aB).trans ((oN _ _ aB).trans (oS _ _ _))|exact(oN _ _ aB).trans aB) (lB rfl)) ?_;rintro _ _ ⟨rfl,hH⟩;obtain rfl:=hH.symm)
  refine .s0 (zL Z61 (.tmp _ _ rfl) (.tmp _ _ rfl) rfl rfl (.inr ⟨_,rfl⟩) (by first|assumption|exact(by assumption:Heap.le _ _).objs _ _ aB|exact oS _ _ _|exact(oN _ _ aB).trans (oS _ _ _)|exact(oN _ _ aB).trans ((oN _ _ aB).trans (oS _ _ _))|exact(oN _ _ aB).trans aB) (lB rfl)) ?_;rintro _ _ ⟨rfl,hH⟩;obtain rfl:=hH.symm;try first|rw[sS]|rw[sU aB]
  refine .p rfl (zE zJ) ?_;refine .nil ?_;refine AX ?_;refine .dropb (by first|exact hb9|exact fS hb9 _) ?_;refine .frz (t:=6) rfl (by first|exact hb6|exact fS hb6 _) ?_;iterate 2 refine AX ?_
  
  refine AX ?_;refine⟨?_,rfl⟩;unfold mkN;rw[aN (show abE ds=[]from hc22)];rw[show ds.dropWhile (·==48)=akP ds from rfl,show Lib.trimRightB (akP ds) 48=abE ds from rfl,show abE ds=[]from hc22];rfl
 try simp only[aL]at hc22
 iterate 4 refine AX ?_
 refine AX ?_;refine .p rfl (zG (.tmp _ _ rfl)) ?_;first|(refine .p rfl (zA U61 rfl Z3 (.tmp _ _ rfl)) ?_)|(refine .p rfl (zC U61 rfl Z3 (.tmp _ _ rfl)) ?_)
 refine .s0 (zL Z3 (.tmp _ _ rfl) (.tmp _ _ rfl) rfl rfl (.inl rfl) (by first|assumption|exact(by assumption:Heap.le _ _).objs _ _ aB|exact oS _ _ _|exact(oN _ _ aB).trans (oS _ _ _)|exact(oN _ _ aB).trans ((oN _ _ aB).trans (oS _ _ _))|exact(oN _ _ aB).trans aB) (lB rfl)) ?_;rintro _ _ ⟨rfl,hH⟩;obtain rfl:=hH.symm;try first|rw[sS]|rw[sU aB]
 refine .nil ?_;iterate 2 refine AX ?_
 refine AX ?_;refine .p rfl (zG (.tmp _ _ rfl)) ?_;refine .p rfl (zG (.tmp _ _ rfl)) ?_;refine .p rfl (yZ (.tmp _ _ rfl) zJ aA) ?_;refine .p rfl (biX (.tmp _ _ rfl) aA) ?_;refine .p rfl (arP (.tmp _ _ rfl) (.tmp _ _ rfl)) ?_;refine .p rfl (aaH (.tmp _ _ rfl) zJ) ?_;refine .nil ?_;refine AX ?_
 
 refine .cond_true (.tmp _ _ rfl) (by exact aU (by simp only[anA];split<;>omega)) ?_;refine AX ?_;first|(refine .p rfl (zA U61 rfl Z3 (.tmp _ _ rfl)) ?_)|(refine .p rfl (zC U61 rfl Z3 (.tmp _ _ rfl)) ?_)
 first|(refine .p rfl (zW G3 (.tmp _ _ rfl)) ?_)|(refine .s rfl (zM G3 (.tmp _ _ rfl) (by first|assumption|exact(by assumption:Heap.le _ _).objs _ _ aB|exact oS _ _ _|exact(oN _ _ aB).trans (oS _ _ _)|exact(oN _ _ aB).trans ((oN _ _ aB).trans (oS _ _ _))|exact(oN _ _ aB).trans aB) rfl) ?_;rintro _ _ ⟨rfl,hH⟩;obtain rfl:=hH.symm)
 refine .p rfl (zG (.tmp _ _ rfl)) ?_;refine .p rfl (aaP U9 (.tmp _ _ rfl)) ?_;first|(refine .p rfl (zA U61 rfl Z9 (.tmp _ _ rfl)) ?_)|(refine .p rfl (zC U61 rfl Z9 (.tmp _ _ rfl)) ?_)
 first|(refine .p rfl (zW G9 (.tmp _ _ rfl)) ?_)|(refine .s rfl (zM G9 (.tmp _ _ rfl) (by first|assumption|exact(by assumption:Heap.le _ _).objs _ _ aB|exact oS _ _ _|exact(oN _ _ aB).trans (oS _ _ _)|exact(oN _ _ aB).trans ((oN _ _ aB).trans (oS _ _ _))|exact(oN _ _ aB).trans aB) rfl) ?_;rintro _ _ ⟨rfl,hH⟩;obtain rfl:=hH.symm)
 refine .p rfl (aaP U9 (.tmp _ _ rfl)) ?_;refine .p rfl (qK (.tmp _ _ rfl) (.tmp _ _ rfl) aA) ?_;refine .p rfl (yZ (.tmp _ _ rfl) (.tmp _ _ rfl) aA) ?_;first|(refine .p rfl (zA U61 rfl Z3 (.tmp _ _ rfl)) ?_)|(refine .p rfl (zC U61 rfl Z3 (.tmp _ _ rfl)) ?_)
 refine .s0 (zL Z3 (.tmp _ _ rfl) (.tmp _ _ rfl) rfl rfl (.inl rfl) (by first|assumption|exact(by assumption:Heap.le _ _).objs _ _ aB|exact oS _ _ _|exact(oN _ _ aB).trans (oS _ _ _)|exact(oN _ _ aB).trans ((oN _ _ aB).trans (oS _ _ _))|exact(oN _ _ aB).trans aB) (lB rfl)) ?_;rintro _ _ ⟨rfl,hH⟩;obtain rfl:=hH.symm;try first|rw[sS]|rw[sU aB]
 refine .nil ?_;iterate 3 refine AX ?_
 rw[hmo];refine AX ?_;first|(refine .p rfl (afE G61 Z61 (.tmp _ _ rfl) (lB rfl)) ?_)|(refine .s rfl (qA G61 Z61 (.tmp _ _ rfl) (by first|assumption|exact(by assumption:Heap.le _ _).objs _ _ aB|exact oS _ _ _|exact(oN _ _ aB).trans (oS _ _ _)|exact(oN _ _ aB).trans ((oN _ _ aB).trans (oS _ _ _))|exact(oN _ _ aB).trans aB) (lB rfl)) ?_;rintro _ _ ⟨rfl,hH⟩;obtain rfl:=hH.symm)
 refine .s rfl (zB C152 (.cons (.tmp _ _ rfl) .nil) (adW neg _ _ hdc _)) ?_;rintro _ _ ⟨rfl,hH⟩;obtain rfl:=hH.symm;refine .p rfl (agL (.tmp _ _ rfl)) ?_;refine .nil ?_;refine AX ?_
 
 refine .cond (.tmp _ _ rfl) (λhc44=>?_) (λhc44=>?_)
 ·try simp only[aL]at hc44
  refine AX ?_;refine AX ?_;refine .p rfl (yU zr61 pl61 .nil rfl) ?_;refine .s0 (zL Z61 (.tmp _ _ rfl) (.tmp _ _ rfl) rfl rfl (.inr ⟨_,rfl⟩) (by first|assumption|exact(by assumption:Heap.le _ _).objs _ _ aB|exact oS _ _ _|exact(oN _ _ aB).trans (oS _ _ _)|exact(oN _ _ aB).trans ((oN _ _ aB).trans (oS _ _ _))|exact(oN _ _ aB).trans aB) (lB rfl)) ?_;rintro _ _ ⟨rfl,hH⟩;obtain rfl:=hH.symm;try first|rw[sS]|rw[sU aB]
  refine .p rfl (zE zJ) ?_;refine .nil ?_;refine AX ?_;refine .dropb (by first|exact hb9|exact fS hb9 _) ?_;refine .frz (t:=6) rfl (by first|exact hb6|exact fS hb6 _) ?_;iterate 2 refine AX ?_
  
  refine AX ?_;refine⟨?_,rfl⟩;have hr:yE (abE ds) (e+adT ds)=false:=by first|exact hc44|exact(Bool.not_eq_false _).mp hc44|(simp only[Bool.not_eq_true,Bool.not_eq_false]at hc44;exact hc44)
  rw[aoD hd hc22]at hr;unfold mkN;rw[aM (show¬abE ds=[]from hc22),aM (by rintro⟨q1,q2,q3⟩;simp[q1,q2,q3]at hr)];rfl
 try simp only[aL]at hc44
 iterate 3 refine AX ?_
 refine AX ?_;first|(refine .p rfl (afE G61 Z61 (.tmp _ _ rfl) (lB rfl)) ?_)|(refine .s rfl (qA G61 Z61 (.tmp _ _ rfl) (by first|assumption|exact(by assumption:Heap.le _ _).objs _ _ aB|exact oS _ _ _|exact(oN _ _ aB).trans (oS _ _ _)|exact(oN _ _ aB).trans ((oN _ _ aB).trans (oS _ _ _))|exact(oN _ _ aB).trans aB) (lB rfl)) ?_;rintro _ _ ⟨rfl,hH⟩;obtain rfl:=hH.symm)
 refine .s0 (zL Z61 (.tmp _ _ rfl) (.tmp _ _ rfl) rfl rfl (.inr ⟨_,rfl⟩) (by first|assumption|exact(by assumption:Heap.le _ _).objs _ _ aB|exact oS _ _ _|exact(oN _ _ aB).trans (oS _ _ _)|exact(oN _ _ aB).trans ((oN _ _ aB).trans (oS _ _ _))|exact(oN _ _ aB).trans aB) (lB rfl)) ?_;rintro _ _ ⟨rfl,hH⟩;obtain rfl:=hH.symm;try first|rw[sS]|rw[sU aB]
 refine .p rfl (zE zJ) ?_;refine .nil ?_;refine AX ?_;refine .dropb (by first|exact hb9|exact fS hb9 _) ?_;refine .frz (t:=6) rfl (by first|exact hb6|exact fS hb6 _) ?_;refine AX ?_
 
 refine AX ?_;refine⟨?_,rfl⟩;have hr:yE (abE ds) (e+adT ds)=true:=by first|exact hc44|exact(Bool.not_eq_false _).mp hc44|(simp only[Bool.not_eq_true,Bool.not_eq_false]at hc44;exact hc44)
 rw[aoD hd hc22]at hr;simp only[bN,aT]at hr;unfold mkN;rw[aM (show¬abE ds=[]from hc22),aN ⟨hr.1.1,hr.1.2,hr.2⟩];rfl
def cjX(neg:Bool)(ds:List UInt8)(e:Int)(b:Nat)(H:Heap):Nat→Env→Heap→Prop:=λk env H1=>∃i:Nat,i≤ds.length∧env=[(0,.bool neg),(1,.str ds),(2,.int .i64 e),(6,.ptr (some ⟨b,0,none⟩)),(8,.int .i64 (i:Int))]∧H1=H.set b (.box 61 [.bool false,.str [],.int .i64 0])∧k=ds.length-i
def cdT(neg:Bool)(ds:List UInt8)(e:Int)(b:Nat)(H:Heap):Nat→Env→Heap→Prop:=λk env H1=>∃i:Nat,i≤ds.length∧(∀q,q<i→ds.getD q 0=48)∧env=[(0,.bool neg),(1,.str ds),(2,.int .i64 e),(6,.ptr (some ⟨b,0,none⟩)),(10,.int .i64 (i:Int))]∧H1=H.set b (.box 61 [.bool false,.str [],.int .i64 0])∧k=ds.length-i
def cdS(neg:Bool)(ds:List UInt8)(e:Int)(b i:Nat)(H:Heap):Nat→Env→Heap→Prop:=λk env H1=>∃j:Nat,i≤j∧j≤ds.length∧(∀q,j≤q→q<ds.length→ds.getD q 0=48)∧env=[(0,.bool neg),(1,.str ds),(2,.int .i64 e),(6,.ptr (some ⟨b,0,none⟩)),(10,.int .i64 (i:Int)),(11,.int .i64 (j:Int)),(12,.int .i64 ((ds.length-j:Nat):Int))]∧H1=H.set b (.box 61 [.bool false,.str [],.int .i64 0])∧k=j
theorem azG{b:UInt8}:((b.toNat:Nat):Int)=48↔b=48:=by
 have:=azF (b:=b) 48 aC;exact aQ.1 this
theorem acQ(neg:Bool)(ds:List UInt8)(e:Int)(hd:Digs ds)(hl:ds.length≤100000)(he: -1000000000000≤e∧e≤1000000000000):Fn 22 [.bool neg,.str ds,.int .i64 e] (dT (mkN neg ds e)):=by
 intro H;refine .of_body func22 rfl ntmps22 results22 rfl ?_;refine AX ?_;refine AX ?_;refine .s rfl (adL zr61) ?_;rintro _ _ ⟨b6,hb6,rfl,hH⟩;obtain rfl:=hH.symm;refine .p rfl (zE zJ) ?_;refine .nil ?_;iterate 3 refine AX ?_
 refine AX ?_;refine .p rfl (zE zJ) ?_;refine .nil ?_;iterate 2 refine AX ?_
 
 refine .loopW (cjX neg ds e b6 H) (ds.length) ⟨0,Nat.zero_le _,rfl,rfl,rfl⟩ sX (hRa _) ?_;rintro _ _ _ ⟨i,hi,rfl,rfl,hk⟩;iterate 2 refine AX ?_
 refine AX ?_;refine .p rfl (zG (.tmp _ _ rfl)) ?_;refine .p rfl (zG (.tmp _ _ rfl)) ?_;refine .p rfl (aaP U9 (.tmp _ _ rfl)) ?_;refine .p rfl (aaH (.tmp _ _ rfl) (.tmp _ _ rfl)) ?_;refine .nil ?_;refine AX ?_
 
 refine .cond (.tmp _ _ rfl) (λhc16=>?_) (λhc16=>?_)
 ·try simp only[aL]at hc16
  have hda:=hd.at (show i<ds.length by omega);have hdc:bxQ (ds.getD i 0)=true:=by unfold bxQ;rw[aU aA,aU aA];rfl
  iterate 5 refine AX ?_
  refine AX ?_;refine .p rfl (zG (.tmp _ _ rfl)) ?_;refine .p rfl (zG (.tmp _ _ rfl)) ?_;refine .p rfl (qQ U9 (.tmp _ _ rfl) (.tmp _ _ rfl) aA aA) ?_;refine .s rfl (zB call58 (.cons (.tmp _ _ rfl) .nil) (aoR (ds.getD i 0) _)) ?_;rintro _ _ ⟨rfl,hH⟩;obtain rfl:=hH.symm;refine .p rfl (zE (.tmp _ _ rfl)) ?_;refine .nil ?_;iterate 2 refine AX ?_
  refine AX ?_;refine .p rfl (zG (.tmp _ _ rfl)) ?_;refine .p rfl (agL (.tmp _ _ rfl)) ?_;refine .nil ?_;refine AX ?_
  
  refine .cond_false (.tmp _ _ rfl) (by rw[hdc];rfl) ?_;iterate 3 refine AX ?_
  refine AX ?_;refine .p rfl (zG (.tmp _ _ rfl)) ?_;refine .p rfl (yZ (.tmp _ _ rfl) zJ aA) ?_;refine .p rfl (zE (.tmp _ _ rfl)) ?_;refine .nil ?_;refine AX ?_;refine Round.mk ⟨i+1,by omega,rfl,rfl,rfl⟩ sX (hRa _) aA
 try simp only[aL]at hc16
 iterate 6 refine AX ?_
 refine AX ?_;refine .p rfl (zE zJ) ?_;refine .nil ?_;iterate 3 refine AX ?_
 
 refine .loopW (cdT neg ds e b6 H) (ds.length) ⟨0,Nat.zero_le _,λq hq=>by omega,rfl,rfl,rfl⟩ sX (hRa _) ?_;rintro _ _ _ ⟨i,hi,hz,rfl,rfl,hk⟩;refine AX ?_;refine .seqTo 35 (.bool (decide ((i:Int)<(ds.length:Int))&&decide (((ds.getD i 0).toNat:Int)=48))) [0,1,2,6,10] ?_ ?_
 ·refine AX ?_;refine .p rfl (zG (.tmp _ _ rfl)) ?_;refine .p rfl (zG (.tmp _ _ rfl)) ?_;refine .p rfl (aaP U9 (.tmp _ _ rfl)) ?_;refine .p rfl (aaH (.tmp _ _ rfl) (.tmp _ _ rfl)) ?_;refine .p rfl (zG (.tmp _ _ rfl)) ?_
  
  refine zD (t:=30) rfl (λhg30=>?_) (λhg30=>?_)
  ·have hh30:=hg30;try simp only[aL]at hh30
   refine .gp rfl rfl rfl aH (zG (.tmp _ _ rfl)) ?_;refine .gp rfl rfl rfl aH (zG (.tmp _ _ rfl)) ?_;refine .gp rfl rfl rfl aH (qQ U9 (.tmp _ _ rfl) (.tmp _ _ rfl) aA aA) ?_;refine .gp rfl rfl rfl aH (acE (.tmp _ _ rfl) zJ) ?_;refine .p rfl (yI (.tmp _ _ rfl) aH (.tmp _ _ rfl)) ?_;refine .nil ?_;exact⟨rfl,zS rfl (by first|rfl|(rw[show decide ((i:Int)<(ds.length:Int))=_ from hg30];rfl)|(rw[show decide ((i:Int)<(j:Int))=_ from hg43,show((j:Int)-1).toNat=j-1 by omega];rfl)|(rw[show decide ((i:Int)<(j:Int))=_ from hg43];rfl)|(rw[show decide ((1100:Int)<(j:Int)-(i:Int))=_ from hg63];rfl)|(rw[show decide ((1100:Int)<(j:Int)-(i:Int))=_ from hg63,show decide ((100000:Int)<e)=_ from hg67];rfl)|(rw[show decide ((1100:Int)<(j:Int)-(i:Int))=_ from hg63,show decide ((100000:Int)<e)=_ from hg67,show decide (e< -100000-((ds.length-j:Nat):Int))=_ from hg73];rfl)|(simp[*];done)|simp_all) sX,rfl⟩
  have hh30:=hg30;try simp only[aL]at hh30
  refine .gn rfl rfl rfl aH ?_;refine .gn rfl rfl rfl aH ?_;refine .gn rfl rfl rfl aH ?_;refine .gn rfl rfl rfl aH ?_;refine .p rfl (yR (.tmp _ _ rfl) aH zT) ?_;refine .nil ?_;exact⟨rfl,zS rfl (by first|rfl|(rw[show decide ((i:Int)<(ds.length:Int))=_ from hg30];rfl)|(rw[show decide ((i:Int)<(j:Int))=_ from hg43,show((j:Int)-1).toNat=j-1 by omega];rfl)|(rw[show decide ((i:Int)<(j:Int))=_ from hg43];rfl)|(rw[show decide ((1100:Int)<(j:Int)-(i:Int))=_ from hg63];rfl)|(rw[show decide ((1100:Int)<(j:Int)-(i:Int))=_ from hg63,show decide ((100000:Int)<e)=_ from hg67];rfl)|(rw[show decide ((1100:Int)<(j:Int)-(i:Int))=_ from hg63,show decide ((100000:Int)<e)=_ from hg67,show decide (e< -100000-((ds.length-j:Nat):Int))=_ from hg73];rfl)|(simp[*];done)|simp_all) sX,rfl⟩
 refine .sub [(35,_),(0,_),(1,_),(2,_),(6,_),(10,_)] sX ?_
 
 refine .cond (.tmp _ _ rfl) (λhc35=>?_) (λhc35=>?_)
 ·try simp only[aL]at hc35
  simp only[bN,aT]at hc35;have h48:=azG.1 hc35.2;iterate 3 refine AX ?_
  refine AX ?_;refine .p rfl (zG (.tmp _ _ rfl)) ?_;refine .p rfl (yZ (.tmp _ _ rfl) zJ aA) ?_;refine .p rfl (zE (.tmp _ _ rfl)) ?_;refine .nil ?_;iterate 2 refine AX ?_
  refine Round.mk ⟨i+1,by omega,λq hq=>by rcases bX q i with h|h;exact hz q h;rw[show q=i by omega];exact h48,rfl,rfl,rfl⟩ sX (hRa _) aA
 try simp only[aL]at hc35
 simp only[cJ,aR]at hc35;have hne:i<ds.length→ds.getD i 0≠48:=λh h2=>hc35.elim (λq=>q aA) (λq=>q (azG.2 h2));iterate 6 refine AX ?_
 refine AX ?_;refine .p rfl (zG (.tmp _ _ rfl)) ?_;refine .p rfl (aaP U9 (.tmp _ _ rfl)) ?_;refine .p rfl (zE (.tmp _ _ rfl)) ?_;refine .nil ?_;iterate 2 refine AX ?_
 refine AX ?_;refine .p rfl (zE zJ) ?_;refine .nil ?_;iterate 3 refine AX ?_
 
 refine .loopW (cdS neg ds e b6 i H) (ds.length) ⟨ds.length,hi,aZ _,λq hq h=>by omega,rfl,rfl,rfl⟩ (zK rfl (zK rfl (zK rfl (zK rfl (zK rfl (zK rfl (zR rfl (by rw[Nat.sub_self];rfl) yF))))))) (hRa _) ?_;rintro _ _ _ ⟨j,hij,hj,hz2,rfl,rfl,hk⟩;refine AX ?_;refine .seqTo 49 (.bool (decide ((i:Int)<(j:Int))&&decide (((ds.getD (j-1) 0).toNat:Int)=48))) [0,1,2,6,10,11,12] ?_ ?_
 ·refine AX ?_;refine .p rfl (zG (.tmp _ _ rfl)) ?_;refine .p rfl (zG (.tmp _ _ rfl)) ?_;refine .p rfl (abH (.tmp _ _ rfl) (.tmp _ _ rfl)) ?_;refine .p rfl (zG (.tmp _ _ rfl)) ?_
  
  refine zD (t:=43) rfl (λhg43=>?_) (λhg43=>?_)
  ·have hh43:=hg43;try simp only[aL]at hh43
   refine .gp rfl rfl rfl aH (zG (.tmp _ _ rfl)) ?_;refine .gp rfl rfl rfl aH (zG (.tmp _ _ rfl)) ?_;refine .gp rfl rfl rfl aH (qK (.tmp _ _ rfl) zJ aA) ?_;refine .gp rfl rfl rfl aH (qQ U9 (.tmp _ _ rfl) (.tmp _ _ rfl) aA aA) ?_;refine .gp rfl rfl rfl aH (acE (.tmp _ _ rfl) zJ) ?_;refine .p rfl (yI (.tmp _ _ rfl) aH (.tmp _ _ rfl)) ?_;refine .nil ?_;exact⟨rfl,zS rfl (by first|rfl|(rw[show decide ((i:Int)<(ds.length:Int))=_ from hg30];rfl)|(rw[show decide ((i:Int)<(j:Int))=_ from hg43,show((j:Int)-1).toNat=j-1 by omega];rfl)|(rw[show decide ((i:Int)<(j:Int))=_ from hg43];rfl)|(rw[show decide ((1100:Int)<(j:Int)-(i:Int))=_ from hg63];rfl)|(rw[show decide ((1100:Int)<(j:Int)-(i:Int))=_ from hg63,show decide ((100000:Int)<e)=_ from hg67];rfl)|(rw[show decide ((1100:Int)<(j:Int)-(i:Int))=_ from hg63,show decide ((100000:Int)<e)=_ from hg67,show decide (e< -100000-((ds.length-j:Nat):Int))=_ from hg73];rfl)|(simp[*];done)|simp_all) sX,rfl⟩
  have hh43:=hg43;try simp only[aL]at hh43
  refine .gn rfl rfl rfl aH ?_;refine .gn rfl rfl rfl aH ?_;refine .gn rfl rfl rfl aH ?_;refine .gn rfl rfl rfl aH ?_;refine .gn rfl rfl rfl aH ?_;refine .p rfl (yR (.tmp _ _ rfl) aH zT) ?_;refine .nil ?_;exact⟨rfl,zS rfl (by first|rfl|(rw[show decide ((i:Int)<(ds.length:Int))=_ from hg30];rfl)|(rw[show decide ((i:Int)<(j:Int))=_ from hg43,show((j:Int)-1).toNat=j-1 by omega];rfl)|(rw[show decide ((i:Int)<(j:Int))=_ from hg43];rfl)|(rw[show decide ((1100:Int)<(j:Int)-(i:Int))=_ from hg63];rfl)|(rw[show decide ((1100:Int)<(j:Int)-(i:Int))=_ from hg63,show decide ((100000:Int)<e)=_ from hg67];rfl)|(rw[show decide ((1100:Int)<(j:Int)-(i:Int))=_ from hg63,show decide ((100000:Int)<e)=_ from hg67,show decide (e< -100000-((ds.length-j:Nat):Int))=_ from hg73];rfl)|(simp[*];done)|simp_all) sX,rfl⟩
 refine .sub [(49,_),(0,_),(1,_),(2,_),(6,_),(10,_),(11,_),(12,_)] sX ?_
 
 refine .cond (.tmp _ _ rfl) (λhc49=>?_) (λhc49=>?_)
 ·try simp only[aL]at hc49
  simp only[bN,aT]at hc49;have h48:=azG.1 hc49.2;iterate 4 refine AX ?_
  refine AX ?_;refine .p rfl (zG (.tmp _ _ rfl)) ?_;refine .p rfl (qK (.tmp _ _ rfl) zJ aA) ?_;refine .p rfl (zE (.tmp _ _ rfl)) ?_;refine .nil ?_;refine AX ?_;refine AX ?_;refine .p rfl (zG (.tmp _ _ rfl)) ?_;refine .p rfl (yZ (.tmp _ _ rfl) zJ aA) ?_;refine .p rfl (zE (.tmp _ _ rfl)) ?_;refine .nil ?_;iterate 2 refine AX ?_
  refine Round.mk ⟨j-1,by omega,by omega,λq hq h=>by rcases bX q j with h2|h2;rw[show q=j-1 by omega];exact h48;exact hz2 q h2 h,rfl,rfl,rfl⟩ (zK rfl (zK rfl (zK rfl (zK rfl (zK rfl (zR rfl (by congr 1;omega) (zR rfl (by congr 1;omega) yF))))))) (hRa _) aA
 try simp only[aL]at hc49
 simp only[cJ,aR]at hc49;have hne2:i<j→ds.getD (j-1) 0≠48:=λh h2=>hc49.elim (λq=>q aA) (λq=>q (azG.2 h2));obtain⟨hco,hcl,hmr⟩:=bpE hi hij hj hz hne hz2 hne2;iterate 7 refine AX ?_
 refine AX ?_;refine .p rfl (zG (.tmp _ _ rfl)) ?_;refine .p rfl (zG (.tmp _ _ rfl)) ?_;refine .p rfl (acE (.tmp _ _ rfl) (.tmp _ _ rfl)) ?_;refine .nil ?_;refine AX ?_
 
 refine .cond (.tmp _ _ rfl) (λhc56=>?_) (λhc56=>?_)
 ·try simp only[aL]at hc56
  refine AX ?_;refine AX ?_;refine .p rfl (zG (.tmp _ _ rfl)) ?_;refine .p rfl (yU zr61 pl61 (.cons (.tmp _ _ rfl) (.inl rfl) .nil) rfl) ?_;refine .s0 (zL Z61 (.tmp _ _ rfl) (.tmp _ _ rfl) rfl rfl (.inr ⟨_,rfl⟩) (by first|assumption|exact(by assumption:Heap.le _ _).objs _ _ aB|exact oS _ _ _|exact(oN _ _ aB).trans (oS _ _ _)|exact(oN _ _ aB).trans ((oN _ _ aB).trans (oS _ _ _))|exact(oN _ _ aB).trans aB) (lB rfl)) ?_;rintro _ _ ⟨rfl,hH⟩;obtain rfl:=hH.symm;try first|rw[sS]|rw[sU aB]
  refine .p rfl (zE zJ) ?_;refine .nil ?_;refine AX ?_;refine .frz (t:=6) rfl (by first|exact hb6|exact fS hb6 _) ?_;iterate 2 refine AX ?_
  
  refine AX ?_;refine⟨?_,rfl⟩;unfold mkN;rw[aN (dI.1 aA)];rfl
 try simp only[aL]at hc56
 iterate 3 refine AX ?_
 refine .seqTo 78 (.bool (decide ((1100:Int)<(j:Int)-(i:Int))||decide ((100000:Int)<e)||decide (e< -100000-((ds.length-j:Nat):Int))||decide ((100000:Int)<e+((ds.length-j:Nat):Int)))) [0,1,2,6,10,11,12] ?_ ?_
 ·refine AX ?_;refine .p rfl (zG (.tmp _ _ rfl)) ?_;refine .p rfl (zG (.tmp _ _ rfl)) ?_;refine .p rfl (qK (.tmp _ _ rfl) (.tmp _ _ rfl) aA) ?_;refine .p rfl (abH (.tmp _ _ rfl) zJ) ?_;refine .p rfl (zG (.tmp _ _ rfl)) ?_
  
  refine zD (t:=63) rfl (λhg63=>?_) (λhg63=>?_)
  ·have hh63:=hg63;try simp only[aL]at hh63
   refine .gn rfl rfl rfl aH ?_;refine .gn rfl rfl rfl aH ?_;refine .p rfl (yI (.tmp _ _ rfl) aH zT) ?_;refine .p rfl (zG (.tmp _ _ rfl)) ?_;refine .gn rfl rfl rfl aH ?_;refine .gn rfl rfl rfl aH ?_;refine .gn rfl rfl rfl aH ?_;refine .gn rfl rfl rfl aH ?_;refine .p rfl (yI (.tmp _ _ rfl) aH zT) ?_;refine .p rfl (zG (.tmp _ _ rfl)) ?_;refine .gn rfl rfl rfl aH ?_;refine .gn rfl rfl rfl aH ?_;refine .gn rfl rfl rfl aH ?_;refine .gn rfl rfl rfl aH ?_;refine .p rfl (yI (.tmp _ _ rfl) aH zT) ?_;refine .nil ?_;exact⟨rfl,zS rfl (by first|rfl|(rw[show decide ((i:Int)<(ds.length:Int))=_ from hg30];rfl)|(rw[show decide ((i:Int)<(j:Int))=_ from hg43,show((j:Int)-1).toNat=j-1 by omega];rfl)|(rw[show decide ((i:Int)<(j:Int))=_ from hg43];rfl)|(rw[show decide ((1100:Int)<(j:Int)-(i:Int))=_ from hg63];rfl)|(rw[show decide ((1100:Int)<(j:Int)-(i:Int))=_ from hg63,show decide ((100000:Int)<e)=_ from hg67];rfl)|(rw[show decide ((1100:Int)<(j:Int)-(i:Int))=_ from hg63,show decide ((100000:Int)<e)=_ from hg67,show decide (e< -100000-((ds.length-j:Nat):Int))=_ from hg73];rfl)|(simp[*];done)|simp_all) sX,rfl⟩
  have hh63:=hg63;try simp only[aL]at hh63
  refine .gp rfl rfl rfl aH (zG (.tmp _ _ rfl)) ?_;refine .gp rfl rfl rfl aH (abH (.tmp _ _ rfl) zJ) ?_;refine .p rfl (yR (.tmp _ _ rfl) aH (.tmp _ _ rfl)) ?_;refine .p rfl (zG (.tmp _ _ rfl)) ?_
  
  refine zD (t:=67) rfl (λhg67=>?_) (λhg67=>?_)
  ·have hh67:=hg67;try simp only[aL]at hh67
   refine .gn rfl rfl rfl aH ?_;refine .gn rfl rfl rfl aH ?_;refine .gn rfl rfl rfl aH ?_;refine .gn rfl rfl rfl aH ?_;refine .p rfl (yI (.tmp _ _ rfl) aH zT) ?_;refine .p rfl (zG (.tmp _ _ rfl)) ?_;refine .gn rfl rfl rfl aH ?_;refine .gn rfl rfl rfl aH ?_;refine .gn rfl rfl rfl aH ?_;refine .gn rfl rfl rfl aH ?_;refine .p rfl (yI (.tmp _ _ rfl) aH zT) ?_;refine .nil ?_;exact⟨rfl,zS rfl (by first|rfl|(rw[show decide ((i:Int)<(ds.length:Int))=_ from hg30];rfl)|(rw[show decide ((i:Int)<(j:Int))=_ from hg43,show((j:Int)-1).toNat=j-1 by omega];rfl)|(rw[show decide ((i:Int)<(j:Int))=_ from hg43];rfl)|(rw[show decide ((1100:Int)<(j:Int)-(i:Int))=_ from hg63];rfl)|(rw[show decide ((1100:Int)<(j:Int)-(i:Int))=_ from hg63,show decide ((100000:Int)<e)=_ from hg67];rfl)|(rw[show decide ((1100:Int)<(j:Int)-(i:Int))=_ from hg63,show decide ((100000:Int)<e)=_ from hg67,show decide (e< -100000-((ds.length-j:Nat):Int))=_ from hg73];rfl)|(simp[*];done)|simp_all) sX,rfl⟩
  have hh67:=hg67;try simp only[aL]at hh67
  refine .gp rfl rfl rfl aH (zG (.tmp _ _ rfl)) ?_;refine .gp rfl rfl rfl aH (zG (.tmp _ _ rfl)) ?_;refine .gp rfl rfl rfl aH (qK zJ (.tmp _ _ rfl) aA) ?_;refine .gp rfl rfl rfl aH (aaH (.tmp _ _ rfl) (.tmp _ _ rfl)) ?_;refine .p rfl (yR (.tmp _ _ rfl) aH (.tmp _ _ rfl)) ?_;refine .p rfl (zG (.tmp _ _ rfl)) ?_
  
  refine zD (t:=73) rfl (λhg73=>?_) (λhg73=>?_)
  ·have hh73:=hg73;try simp only[aL]at hh73
   refine .gn rfl rfl rfl aH ?_;refine .gn rfl rfl rfl aH ?_;refine .gn rfl rfl rfl aH ?_;refine .gn rfl rfl rfl aH ?_;refine .p rfl (yI (.tmp _ _ rfl) aH zT) ?_;refine .nil ?_;exact⟨rfl,zS rfl (by first|rfl|(rw[show decide ((i:Int)<(ds.length:Int))=_ from hg30];rfl)|(rw[show decide ((i:Int)<(j:Int))=_ from hg43,show((j:Int)-1).toNat=j-1 by omega];rfl)|(rw[show decide ((i:Int)<(j:Int))=_ from hg43];rfl)|(rw[show decide ((1100:Int)<(j:Int)-(i:Int))=_ from hg63];rfl)|(rw[show decide ((1100:Int)<(j:Int)-(i:Int))=_ from hg63,show decide ((100000:Int)<e)=_ from hg67];rfl)|(rw[show decide ((1100:Int)<(j:Int)-(i:Int))=_ from hg63,show decide ((100000:Int)<e)=_ from hg67,show decide (e< -100000-((ds.length-j:Nat):Int))=_ from hg73];rfl)|(simp[*];done)|simp_all) sX,rfl⟩
  have hh73:=hg73;try simp only[aL]at hh73
  refine .gp rfl rfl rfl aH (zG (.tmp _ _ rfl)) ?_;refine .gp rfl rfl rfl aH (zG (.tmp _ _ rfl)) ?_;refine .gp rfl rfl rfl aH (yZ (.tmp _ _ rfl) (.tmp _ _ rfl) aA) ?_;refine .gp rfl rfl rfl aH (abH (.tmp _ _ rfl) zJ) ?_;refine .p rfl (yR (.tmp _ _ rfl) aH (.tmp _ _ rfl)) ?_;refine .nil ?_;exact⟨rfl,zS rfl (by first|rfl|(rw[show decide ((i:Int)<(ds.length:Int))=_ from hg30];rfl)|(rw[show decide ((i:Int)<(j:Int))=_ from hg43,show((j:Int)-1).toNat=j-1 by omega];rfl)|(rw[show decide ((i:Int)<(j:Int))=_ from hg43];rfl)|(rw[show decide ((1100:Int)<(j:Int)-(i:Int))=_ from hg63];rfl)|(rw[show decide ((1100:Int)<(j:Int)-(i:Int))=_ from hg63,show decide ((100000:Int)<e)=_ from hg67];rfl)|(rw[show decide ((1100:Int)<(j:Int)-(i:Int))=_ from hg63,show decide ((100000:Int)<e)=_ from hg67,show decide (e< -100000-((ds.length-j:Nat):Int))=_ from hg73];rfl)|(simp[*];done)|simp_all) sX,rfl⟩
 refine .sub [(78,_),(0,_),(1,_),(2,_),(6,_),(10,_),(11,_),(12,_)] sX ?_
 
 refine .cond (.tmp _ _ rfl) (λhc78=>?_) (λhc78=>?_)
 ·try simp only[aL]at hc78
  simp only[dB,aT]at hc78;refine AX ?_;refine AX ?_;refine .p rfl (yU zr61 pl61 .nil rfl) ?_;refine .s0 (zL Z61 (.tmp _ _ rfl) (.tmp _ _ rfl) rfl rfl (.inr ⟨_,rfl⟩) (by first|assumption|exact(by assumption:Heap.le _ _).objs _ _ aB|exact oS _ _ _|exact(oN _ _ aB).trans (oS _ _ _)|exact(oN _ _ aB).trans ((oN _ _ aB).trans (oS _ _ _))|exact(oN _ _ aB).trans aB) (lB rfl)) ?_;rintro _ _ ⟨rfl,hH⟩;obtain rfl:=hH.symm;try first|rw[sS]|rw[sU aB]
  refine .p rfl (zE zJ) ?_;refine .nil ?_;refine AX ?_;refine .frz (t:=6) rfl (by first|exact hb6|exact fS hb6 _) ?_;iterate 2 refine AX ?_
  
  refine AX ?_;refine⟨?_,rfl⟩;unfold mkN;rw[aM (λh=>by rw[h]at hcl;simp at hcl;omega),aM (show¬okD ds e by unfold okD;rw[hcl,hmr];omega)];rfl
 try simp only[aL]at hc78
 simp only[dQ,aR]at hc78;iterate 3 refine AX ?_
 refine AX ?_;refine .p rfl (zG (.tmp _ _ rfl)) ?_;refine .p rfl (zG (.tmp _ _ rfl)) ?_;refine .p rfl (zG (.tmp _ _ rfl)) ?_;refine .p rfl (zG (.tmp _ _ rfl)) ?_;refine .p rfl (aaJ U9 (.tmp _ _ rfl) (.tmp _ _ rfl) (.tmp _ _ rfl) aA aA aA) ?_;refine .p rfl (zG (.tmp _ _ rfl)) ?_;refine .p rfl (zG (.tmp _ _ rfl)) ?_;refine .p rfl (yZ (.tmp _ _ rfl) (.tmp _ _ rfl) aA) ?_;refine .p rfl (yU zr61 pl61 (.cons (.tmp _ _ rfl) (.inl rfl) (.cons (.tmp _ _ rfl) (.inl rfl) (.cons (.tmp _ _ rfl) (.inl rfl) .nil))) rfl) ?_;refine .s0 (zL Z61 (.tmp _ _ rfl) (.tmp _ _ rfl) rfl rfl (.inr ⟨_,rfl⟩) (by first|assumption|exact(by assumption:Heap.le _ _).objs _ _ aB|exact oS _ _ _|exact(oN _ _ aB).trans (oS _ _ _)|exact(oN _ _ aB).trans ((oN _ _ aB).trans (oS _ _ _))|exact(oN _ _ aB).trans aB) (lB rfl)) ?_;rintro _ _ ⟨rfl,hH⟩;obtain rfl:=hH.symm;try first|rw[sS]|rw[sU aB]
 refine .p rfl (zE zJ) ?_;refine .nil ?_;refine AX ?_;refine .frz (t:=6) rfl (by first|exact hb6|exact fS hb6 _) ?_;refine AX ?_
 
 refine AX ?_;refine⟨?_,rfl⟩;unfold mkN;rw[aM (λh=>by rw[h]at hcl;simp at hcl;omega),aN (show okD ds e by unfold okD;rw[hcl,hmr];omega),hco,hmr];rfl
end
end Go.Proofs.YteedncdcbgplfaaGreatDoor
