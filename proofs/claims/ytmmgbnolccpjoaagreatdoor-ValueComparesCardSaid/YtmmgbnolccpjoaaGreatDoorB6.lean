import Derived.Test.YtmmgbnolccpjoaaGreatDoorB5
set_option maxHeartbeats 1000000
namespace Go.Proofs.YtmmgbnolccpjoaaGreatDoor
open Go.Proofs.Tryz
open Go Go.RowKit
open Go.Lib
variable{l:Loc}{d t:List UInt8}{gr neg x:Bool}{k:Nat}{kd:Int}
section
set_option maxRecDepth 100000
theorem bfD{s:List UInt8}:(((!decide (t=[])&&hasPrefix s l.grp)&&decide ((l.grp.length:Int)<(s.length:Int)))&&apQ (s.getD ((l.grp.length:Nat):Int).toNat 0))=ahW l t s:=by
 unfold ahW;rw[dL,Bool.and_assoc (!decide (t=[])&&hasPrefix s l.grp),show decide ((l.grp.length:Int)<(s.length:Int))=decide (l.grp.length<s.length)from aT.2 aA];cases t<;>rfl
theorem alY{l:Loc}(hg:l.grp≠[]):∀(f g:Nat)(a t s:List UInt8)(x:Bool),s.length≤f→s.length≤g→acT l f a t s x=acT l g a t s x
 |0,g,a,t,s,x,h,_=>by
  have:s=[]:=cF.1 aA;subst this;rw[abP (by unfold ahW;simp),abP (by unfold ahW;simp)]
 |f+1,0,a,t,s,x,_,h=>by
  have:s=[]:=cF.1 aA;subst this;rw[abP (by unfold ahW;simp),abP (by unfold ahW;simp)]
 |f+1,g+1,a,t,s,x,h1,h2=>by
  have:=bS.2 hg;have hr:=ahD (s.drop l.grp.length);rw[bD]at hr;rw[acT,acT];split
  ·exact alY hg f g _ _ _ _ aA aA
  rfl
theorem apO{s:List UInt8}(h:ahW l t s=true):hasPrefix s l.grp=true∧l.grp.length<s.length:=by
 unfold ahW at h;simp only[bL,aO]at h;exact⟨h.1.2,h.2.1⟩
theorem bwZ(hg:l.grp≠[]){a s:List UInt8}(h:ahW l t s=true):acT l s.length a t s x=acT l (abI (s.drop l.grp.length)).length (a++acC (s.drop l.grp.length)) (t++l.grp++acC (s.drop l.grp.length)) (abI (s.drop l.grp.length)) true:=by
 have hp:=apO h;have:=bS.2 hg;have hr:=ahD (s.drop l.grp.length);rw[bD]at hr;obtain⟨f,hf⟩:∃f,s.length=f+1:=⟨s.length-1,by omega⟩;rw[hf,acT,aN h];exact alY hg _ _ _ _ _ _ aA (aV _)
theorem awT{l:Loc}:∀(f:Nat)(a t s:List UInt8)(x:Bool),(acT l f a t s x).2.1.length+(acT l f a t s x).2.2.1.length≤t.length+s.length∧(a.length≤t.length→(acT l f a t s x).1.length≤(acT l f a t s x).2.1.length)
 |0,a,t,s,x=>⟨aV _,λh=>h⟩
 |f+1,a,t,s,x=>by
  rw[acT];split
  ·rename_i h
   have hp:=apO h;have hr:=congrArg List.length (acE (s.drop l.grp.length));rw[aP,bD]at hr;have ih:=awT (l:=l) f (a++acC (s.drop l.grp.length)) (t++l.grp++acC (s.drop l.grp.length)) (abI (s.drop l.grp.length)) true;simp only[aP]at ih;exact⟨by omega,λh=>ih.2 aA⟩
  exact⟨aV _,λh=>h⟩
theorem clO(l:Loc)(s:List UInt8):(wR l s).2.1.length+(wR l s).2.2.1.length≤s.length∧(wR l s).1.length≤(wR l s).2.1.length:=by
 have h:=awT (l:=l) s.length (acC s) (acC s) (abI s) false;have hr:=congrArg List.length (acE s);rw[aP]at hr;exact⟨aZ h.1 aA,h.2 (aV _)⟩
theorem cmI(l:Loc)(s:List UInt8):(pR l s).1.length+(pR l s).2.length≤s.length:=by
 unfold pR;split
 ·have hr:=congrArg List.length (acE (s.drop l.dc.length));rw[aP,bD]at hr;simp only;omega
 simp
def blZ(l:Loc)(s0 ds0:List UInt8)(neg0:Bool)(e0:Int)(bits0:Nat)(kind0:Int)(x0:Bool)(b:Nat)(H:Heap):Nat→Env→Heap→Prop:=λk env H1=>∃(a t s:List UInt8)(g:Bool),acT l s.length a t s g=wR l s0∧t.length+s.length≤s0.length∧a.length≤t.length∧env=[(0,.ptr (some ⟨b,0,none⟩)),(3,.str t),(4,.str a)]∧H1=H.set b (Wk l ⟨s,neg0,ds0,e0,⟨bits0,kind0,0,g,x0⟩⟩)∧k=s.length
theorem bhB(l:Loc)(hk:l.ok)(hs2:l.second=2∨l.second=3)(hg:l.grp≠[])(s0:List UInt8)(neg0:Bool)(ds0:List UInt8)(e0:Int)(bits0:Nat)(kind0:Int)(x0:Bool)(hq:s0.length≤2000)(b:Nat)(H:Heap)(hb:H.objs b=some (Wk l ⟨s0,neg0,ds0,e0,⟨bits0,kind0,0,false,x0⟩⟩)):ACall prog 226 [.ptr (some ⟨b,0,none⟩)] H (λy H'=>y= .str (wR l s0).1∧H'=H.set b (Wk l ⟨(wR l s0).2.2.1,neg0,ds0,e0,⟨bits0,kind0,if(wR l s0).2.1≠[]∧afK l (wR l s0).2.1=none then-1 else 0,(wR l s0).2.2.2,x0⟩⟩)):=by
 obtain⟨hk1,hk2,hk3,hk4,hk5⟩:=id hk;have hgl:=bS.2 hg;have hml:=zJ;refine .of_body func226 rfl ntmps226 results226 rfl ?_;iterate 8 refine AX ?_
 refine .e rfl (zB C227 (evs1 rfl) (rowW l _ _ _ _ _ hq b _ hb)) ?_;iterate 11 refine AX ?_
 refine .loopW (blZ l s0 ds0 neg0 e0 bits0 kind0 x0 b H) ((abI s0).length) ⟨acC s0,acC s0,abI s0,false,by unfold wR;exact alY hg _ _ _ _ _ _ (aV _) (ahD s0).1,by have:=congrArg List.length (acE s0);rw[aP]at this;omega,aV _,rfl,rfl,rfl⟩ sX (hRa _) ?_;rintro _ _ _ ⟨a,t,s,g,hw,hl1,hl2,rfl,rfl,rfl⟩;have hsl:s.length≤2000:=by omega
 refine AX ?_;refine .seqTo 52 (.bool (((!decide (t=[])&&hasPrefix s l.grp)&&decide ((l.grp.length:Int)<(s.length:Int)))&&apQ (s.getD ((l.grp.length:Nat):Int).toNat 0))) [0,3,4] ?_ ?_
 ·refine .drawI (λH2=>H2.objs b=some (Wk l ⟨s,neg0,ds0,e0,⟨bits0,kind0,0,g,x0⟩⟩)) [(0,true),(1,true),(2,true),(3,true),(4,true),(5,true),(6,true),(7,true),(8,true),(9,true),(10,true),(11,true),(12,true),(13,true),(14,true),(15,true),(16,true),(17,true),(18,true),(19,true),(20,true),(21,true),(22,true),(23,true),(24,true),(25,true),(26,true),(27,true),(28,true),(29,true),(30,true),(31,true),(32,true),(33,true),(34,true),(35,true),(36,true),(37,true),(38,true),(39,true),(40,true),(41,true)] (by exact oS _ _ _) rfl aE ?_;iterate 3 refine AX ?_
  refine amS (t:=13) rfl (λhg13=>?_) (λhg13=>?_)
  ·iterate 2 refine AX ?_
   refine .gp rfl rfl rfl rfl aB (zD U139 rfl Z9 (tm rfl)) ?_;refine .gf rfl rfl rfl rfl aB (λ_ hI=>yC G9 (tm rfl) (hI) rfl) ?_;iterate 2 refine AX ?_
   refine .gp rfl rfl rfl rfl aB (zD U139 rfl Z31 (tm rfl)) ?_;refine .gp rfl rfl rfl rfl aB (zD U31 rfl Z9 (tm rfl)) ?_;refine .gf rfl rfl rfl rfl aB (λ_ hI=>yC G9 (tm rfl) (hI) rfl) ?_;refine .gf rfl rfl rfl rfl aB (λ_ hI=>zB C169 (evs2 rfl rfl) (ahP _ _ _)) ?_;iterate 2 refine AX ?_
   refine amS (t:=25) rfl (λhg25=>?_) (λhg25=>?_)
   ·iterate 2 refine AX ?_
    refine .gp rfl rfl rfl rfl aB (zD U139 rfl Z9 (tm rfl)) ?_;refine .gf rfl rfl rfl rfl aB (λ_ hI=>yC G9 (tm rfl) (hI) rfl) ?_;iterate 3 refine AX ?_
    refine .gp rfl rfl rfl rfl aB (zD U139 rfl Z31 (tm rfl)) ?_;refine .gp rfl rfl rfl rfl aB (zD U31 rfl Z9 (tm rfl)) ?_;refine .gf rfl rfl rfl rfl aB (λ_ hI=>yC G9 (tm rfl) (hI) rfl) ?_;iterate 4 refine AX ?_
    refine amS (t:=39) rfl (λhg39=>?_) (λhg39=>?_)
    ·iterate 2 refine AX ?_
     refine .gp rfl rfl rfl rfl aB (zD U139 rfl Z9 (tm rfl)) ?_;refine .gf rfl rfl rfl rfl aB (λ_ hI=>yC G9 (tm rfl) (hI) rfl) ?_;iterate 2 refine AX ?_
     refine .gp rfl rfl rfl rfl aB (zD U139 rfl Z31 (tm rfl)) ?_;refine .gp rfl rfl rfl rfl aB (zD U31 rfl Z9 (tm rfl)) ?_;refine .gf rfl rfl rfl rfl aB (λ_ hI=>yC G9 (tm rfl) (hI) rfl) ?_;refine AX ?_;refine .gp rfl rfl rfl rfl aB (abB U9 (tm rfl) (tm rfl) (by have:=of_decide_eq_true hg39;omega) (by have:=of_decide_eq_true hg39;omega)) ?_;refine .gf rfl rfl rfl rfl aB (λ_ hI=>zB call274 (evs1 rfl) (aqR _ _)) ?_;iterate 2 refine AX ?_
     exact⟨rfl,zL rfl (by(rw[show(!decide (t=[]))=_ from hg13,show hasPrefix s l.grp=_ from hg25,show decide ((l.grp.length:Int)<(s.length:Int))=_ from hg39];rfl)) sX,rfl⟩
    iterate 14 refine AX ?_
    exact⟨rfl,zL rfl (by(rw[show(!decide (t=[]))=_ from hg13,show hasPrefix s l.grp=_ from hg25,show decide ((l.grp.length:Int)<(s.length:Int))=_ from hg39];rfl)) sX,rfl⟩
   iterate 28 refine AX ?_
   exact⟨rfl,zL rfl (by(rw[show(!decide (t=[]))=_ from hg13,show hasPrefix s l.grp=_ from hg25];rfl)) sX,rfl⟩
  iterate 40 refine AX ?_
  exact⟨rfl,zL rfl (by(rw[show(!decide (t=[]))=_ from hg13];rfl)) sX,rfl⟩
 refine .sub [(52,_),(0,_),(3,_),(4,_)] sX ?_;refine .cx rfl (λhc52=>?_) (λhc52=>?_)
 ·have hm:ahW l t s=true:=by rw[←bfD];exact hc52
  have hmp:=apO hm;iterate 8 refine AX ?_
  refine .p rfl (zD U139 rfl Z31 (tm rfl)) (.p rfl (zD U31 rfl Z9 (tm rfl)) ?_);refine AX ?_;refine .e rfl (zB C101 (evs2 rfl rfl) (takeW l _ _ _ _ _ hsl b _ (oS _ _ _) _)) ?_;rw[sS];simp only[acD hmp.1];iterate 5 refine AX ?_
  refine .e rfl (zB C227 (evs1 rfl) (rowW l (s.drop l.grp.length) _ _ _ _ (by rw[bD];omega) b _ (oS _ _ _))) ?_;rw[sS];iterate 8 refine AX ?_
  refine .p rfl (zD U139 rfl Z31 (tm rfl)) (.p rfl (zD U31 rfl Z9 (tm rfl)) ?_);refine AX ?_;refine .p rfl (zS (tm rfl) (tm rfl) (by rw[zJ];omega)) ?_;refine AX ?_;refine .p rfl (zS (tm rfl) (tm rfl) (by have:=ahD (s.drop l.grp.length);rw[zJ,aP];rw[bD]at this;omega)) ?_;iterate 7 refine AX ?_
  refine .p rfl (zS (tm rfl) (tm rfl) (by have:=ahD (s.drop l.grp.length);rw[zJ];rw[bD]at this;omega)) ?_;iterate 6 refine AX ?_
  refine .p rfl (zD U139 rfl Z79 (tm rfl)) (.p rfl (zD U79 rfl Z4 (tm rfl)) ?_);iterate 4 refine AX ?_
  refine Round.mk ⟨a++acC (s.drop l.grp.length),t++l.grp++acC (s.drop l.grp.length),abI (s.drop l.grp.length),true,by rw[←bwZ hg hm];exact hw,by have:=congrArg List.length (acE (s.drop l.grp.length));simp only[aP,bD]at this ⊢;omega,by simp only[aP];omega,rfl,rfl,rfl⟩ sX (hRa _) (by have:=ahD (s.drop l.grp.length);rw[bD]at this;omega)
 have hm:ahW l t s=false:=by rw[←bfD];exact hc52
 have hww:wR l s0=(a,t,s,g):=by rw[←hw];exact abP hm _ _ _
 iterate 9 refine AX ?_
 refine .p rfl (zD U139 rfl Z31 (tm rfl)) ?_;iterate 2 refine AX ?_
 refine .cl rfl call275 (evs2 rfl rfl) (beE l hk hs2 hg t aA _) ?_;iterate 8 refine AX ?_
 refine .seqTo 92 (.bool (!decide (t=[])&& !(afK l t).isSome)) [0,4] ?_ ?_
 ·iterate 4 refine AX ?_
  refine zC (t:=89) rfl (λhg89=>?_) (λhg89=>?_)
  ·iterate 4 refine AX ?_
   exact⟨rfl,zL rfl (by(rw[show(!decide (t=[]))=_ from hg89];rfl)) sX,rfl⟩
  iterate 4 refine AX ?_
  exact⟨rfl,zL rfl (by(rw[show(!decide (t=[]))=_ from hg89];rfl)) sX,rfl⟩
 refine .sub [(92,_),(0,_),(4,_)] sX ?_;refine .cx rfl (λhc92=>?_) (λhc92=>?_)
 ·have hbad:t≠[]∧afK l t=none:=by simpa using hc92
  iterate 3 refine AX ?_
  refine .p rfl (zD U139 rfl Z79 (tm rfl)) (.p rfl (zD U79 rfl Z3 (tm rfl)) ?_);iterate 11 refine AX ?_
  refine⟨by rw[hww];rfl,?_⟩;rw[hww];simp only[aN hbad];rfl
 have hbad:¬(t≠[]∧afK l t=none):=by intro q;rw[q.2,bB q.1]at hc92;cases hc92
 iterate 10 refine AX ?_
 refine⟨by rw[hww];rfl,?_⟩;rw[hww];simp only[aL hbad]
 done
def cgA(l:Loc)(b:Nat)(D:List UInt8)(neg:Bool)(H:Heap):Nat→Env→Heap→Prop:=λk env H1=>∃i:Nat,i≤D.length∧env=[(0,.ptr (some ⟨b,0,none⟩)),(7,.bool neg),(8,.str D),(9,.int .i64 (num (D.take i):Int)),(10,.int .i64 (i:Int))]∧H=H1∧k=D.length-i
theorem azG(l:Loc)(hk:l.ok)(hs2:l.second=2∨l.second=3)(hg:l.grp≠[])(s0:List UInt8)(neg0:Bool)(ds0:List UInt8)(e0:Int)(bits0:Nat)(kind0:Int)(hq:s0.length≤2000)(b:Nat)(H:Heap)(hb:H.objs b=some (Wk l ⟨s0,neg0,ds0,e0,⟨bits0,kind0,0,false,false⟩⟩)):ACall prog 170 [.ptr (some ⟨b,0,none⟩)] H (λy H'=>∃q':WkN,y= .bool (aoQ l s0).isSome∧H'=H.set b (Wk l q')∧(∀d e k gr x z,aoQ l s0=some (d,e,k,gr,x,z)→q'=⟨z,neg0,d,e,⟨bits0,kind0,(k:Int),gr,x⟩⟩)∧q'.s.length≤s0.length∧q'.neg=neg0):=by
 obtain⟨hk1,hk2,hk3,hk4,hk5⟩:=id hk;have hgl:=bS.2 hg;have hml:=zJ;have hwc:=bhB l hk hs2 hg s0 neg0 ds0 e0 bits0 kind0 false hq b H hb;have hwl:=clO l s0;rcases hw:wR l s0 with⟨A,T,Y,G⟩
 rw[hw]at hwc hwl;simp only at hwc hwl;refine .of_body func170 rfl ntmps170 results170 rfl ?_;iterate 8 refine AX ?_
 refine .e rfl (zB call226 (evs1 rfl) (hwc)) ?_;iterate 8 refine AX ?_
 refine .p rfl (zD U139 rfl Z79 (tm rfl)) (.p rfl (zD U79 rfl Z3 (tm rfl)) ?_);iterate 4 refine AX ?_
 refine .cx rfl (λhc18=>?_) (λhc18=>?_)
 ·have hbad:T≠[]∧afK l T=none:=Decidable.by_contra λq=>by rw[aL q]at hc18;exact absurd hc18 aC
  iterate 8 refine AX ?_
  have hn:aoQ l s0=none:=by
   unfold aoQ;rw[hw];exact aN hbad
  refine⟨_,by rw[hn];rfl,rfl,(λ_ _ _ _ _ _ hr=>by rw[hn]at hr;cases hr),?_,rfl⟩;show Y.length≤s0.length;omega
 have hbad:¬(T≠[]∧afK l T=none):=λq=>by rw[aN q]at hc18;exact absurd hc18 aC
 rw[aL hbad];iterate 12 refine AX ?_
 refine .p rfl (zD U139 rfl Z31 (tm rfl)) (.p rfl (zD U31 rfl Z9 (tm rfl)) ?_);refine AX ?_;refine .e rfl (zB C101 (evs2 rfl rfl) (takeW l Y _ _ _ _ aA b _ (oS _ _ _) _)) ?_;rw[sS];iterate 3 refine AX ?_
 refine .meet (λenv H2=>∃R S,pR l Y=(R,S)∧env=[(0,.ptr (some ⟨b,0,none⟩)),(3,.str A),(4,.str R)]∧H2=H.set b (Wk l ⟨S,neg0,ds0,e0,⟨bits0,kind0,0,G,false⟩⟩)) ?_ ?_
 ·iterate 5 refine AX ?_
  refine .cx rfl (λhc26=>?_) (λhc26=>?_)
  ·have hpr:pR l Y=(acC (Y.drop l.dc.length),abI (Y.drop l.dc.length)):=by unfold pR;rw[aN hc26]
   rw[acD hc26];iterate 2 refine AX ?_
   refine .e rfl (zB C227 (evs1 rfl) (rowW l (Y.drop l.dc.length) _ _ _ _ (by rw[bD];omega) b _ (oS _ _ _))) ?_;rw[sS];iterate 3 refine AX ?_
   refine .mk ⟨_,_,hpr,rfl,rfl⟩ sX (hRa _)
  have hpr:pR l Y=([],Y):=by unfold pR;rw[aL (by rw[hc26];decide)]
  rw[adT hc26];iterate 2 refine AX ?_
  refine .mk ⟨_,_,hpr,rfl,rfl⟩ sX (hRa _)
 rintro _ _ ⟨R,S,hpr,rfl,rfl⟩;have hpl:=cmI l Y;rw[hpr]at hpl;simp only at hpl;refine AX ?_;refine .seqTo 34 (.bool (decide (A=[])&&decide (R=[]))) [0,3,4] ?_ ?_
 ·iterate 4 refine AX ?_
  refine zC (t:=31) rfl (λhg31=>?_) (λhg31=>?_)
  ·iterate 4 refine AX ?_
   exact⟨rfl,zL rfl (by(rw[show decide (A=[])=_ from hg31];rfl)) sX,rfl⟩
  iterate 4 refine AX ?_
  exact⟨rfl,zL rfl (by(rw[show decide (A=[])=_ from hg31];rfl)) sX,rfl⟩
 refine .sub [(34,_),(0,_),(3,_),(4,_)] sX ?_;refine .cx rfl (λhc34=>?_) (λhc34=>?_)
 ·have hemp:A=[]∧R=[]:=by simpa using hc34
  iterate 8 refine AX ?_
  have hn:aoQ l s0=none:=by
   unfold aoQ;rw[hw];simp only;rw[aL hbad,hpr];exact aN hemp
  refine⟨_,by rw[hn];rfl,rfl,(λ_ _ _ _ _ _ hr=>by rw[hn]at hr;cases hr),?_,rfl⟩;show S.length≤s0.length;omega
 have hemp:¬(A=[]∧R=[]):=by intro q;rw[aY q.1,aY q.2]at hc34;cases hc34
 iterate 7 refine AX ?_
 refine .p rfl (zS (tm rfl) (tm rfl) (by rw[zJ];omega)) ?_;refine AX ?_;refine .p rfl (zD U139 rfl Z9 (tm rfl)) ?_;iterate 9 refine AX ?_
 refine .p rfl (zD U139 rfl Z79 (tm rfl)) (.p rfl (zD U79 rfl Z3 (tm rfl)) ?_);iterate 10 refine AX ?_
 refine .p rfl (zD U139 rfl Z3 (tm rfl)) ?_;iterate 4 refine AX ?_
 refine .seqTo 73 (.bool (decide (S=[])||(decide (((S.getD 0 0).toNat:Int)≠101)&&decide (((S.getD 0 0).toNat:Int)≠69)))) [0] ?_ ?_
 ·iterate 3 refine AX ?_
  refine .p rfl (zD U139 rfl Z9 (tm rfl)) ?_;iterate 3 refine AX ?_
  refine zC (t:=58) rfl (λhg58=>?_) (λhg58=>?_)
  ·iterate 16 refine AX ?_
   exact⟨rfl,zL rfl (by(rw[show decide (S=[])=_ from hg58];rfl)) (zI rfl yJ),rfl⟩
  iterate 2 refine AX ?_
  refine .gp rfl rfl rfl aB (zD U139 rfl Z9 (tm rfl)) (.gs rfl rfl rfl aB (yC G9 (tm rfl) (oS _ _ _) rfl) ?_);rintro _ _ ⟨rfl,hH⟩;obtain rfl:=hH.symm;refine .gp rfl rfl rfl aB (abB U9 (tm rfl) zH (by have:=bS.2 (of_decide_eq_false hg58);omega) (by have:=bS.2 (of_decide_eq_false hg58);omega)) ?_;iterate 2 refine AX ?_
  refine zC (t:=65) rfl (λhg65=>?_) (λhg65=>?_)
  ·iterate 2 refine AX ?_
   refine .gp rfl rfl rfl aB (zD U139 rfl Z9 (tm rfl)) (.gs rfl rfl rfl aB (yC G9 (tm rfl) (oS _ _ _) rfl) ?_);rintro _ _ ⟨rfl,hH⟩;obtain rfl:=hH.symm;refine .gp rfl rfl rfl aB (abB U9 (tm rfl) zH (by have:=bS.2 (of_decide_eq_false hg58);omega) (by have:=bS.2 (of_decide_eq_false hg58);omega)) ?_;iterate 4 refine AX ?_
   exact⟨rfl,zL rfl (by(rw[show decide (S=[])=_ from hg58,show decide (((S.getD 0 0).toNat:Int)≠101)=_ from hg65];rfl)) (zI rfl yJ),rfl⟩
  iterate 9 refine AX ?_
  exact⟨rfl,zL rfl (by(rw[show decide (S=[])=_ from hg58,show decide (((S.getD 0 0).toNat:Int)≠101)=_ from hg65];rfl)) (zI rfl yJ),rfl⟩
 refine .sub [(73,_),(0,_)] sX ?_;refine .cx rfl (λhc73=>?_) (λhc73=>?_)
 ·have htl:aoY l S=some (0,false,S):=by
   unfold aoY;rw[aN];simp only[cN,bL,aO]at hc73;rcases hc73 with h|h
   ·exact .inl h
   exact .inr ⟨λq=>h.1 (by rw[q];rfl),λq=>h.2 (by rw[q];rfl)⟩
  iterate 8 refine AX ?_
  have hn:aoQ l s0=some (A++R,0-(R.length:Int),R.length,G,false,S):=by
   unfold aoQ;rw[hw];simp only;rw[aL hbad,hpr];simp only;rw[aL hemp,htl]
  refine⟨⟨S,neg0,A++R,-(R.length:Int),⟨bits0,kind0,(R.length:Int),G,false⟩⟩,by rw[hn];rfl,rfl,λ_ _ _ _ _ _ hr=>?_,(by show S.length≤s0.length;omega),rfl⟩;rw[hn]at hr;simp only[Option.some.injEq,Prod.mk.injEq]at hr;obtain⟨rfl,rfl,rfl,rfl,rfl,rfl⟩:=hr;rw[Int.zero_sub]
 have hc73:¬(S=[]∨(S.getD 0 0≠101∧S.getD 0 0≠69)):=by
  simp only[cC,bX,aM,dY]at hc73;rintro(q|q)
  ·exact hc73.1 q
  exact hc73.2.elim (λh=>q.1 (abM (d:=101) (by show _=101;omega))) (λh=>q.2 (abM (d:=69) (by show _=69;omega)))
 iterate 3 refine AX ?_
 have hsl1:=anF l (S.drop 1);have hS1:1≤S.length:=bS.2 (λq=>hc73 (.inl q));have hS2:(S.drop 1).length=S.length-1:=bD;iterate 4 refine AX ?_
 refine .p rfl (zD U139 rfl Z9 (tm rfl)) ?_;refine AX ?_;refine .p rfl (aeU U9 (tm rfl) zH (by(try dsimp only);omega) (by(try dsimp only);omega)) ?_;refine AX ?_;refine .p rfl (zD U139 rfl Z9 (tm rfl)) ?_;iterate 7 refine AX ?_
 refine .p rfl (zD U139 rfl Z79 (tm rfl)) (.p rfl (zD U79 rfl Z4 (tm rfl)) ?_);iterate 6 refine AX ?_
 refine .s rfl (zB call102 (evs1 rfl) (rsignW l (S.drop 1) neg0 (A++R) (-(R.length:Int)) ⟨bits0,kind0,(R.length:Int),G,true⟩ (by rw[bD];omega) b _ (oS _ _ _))) ?_;rintro _ _ ⟨⟨g1,rfl⟩,hH⟩;obtain rfl:=hH.symm;rw[sS];iterate 10 refine AX ?_
 refine .e rfl (zB C227 (evs1 rfl) (rowW l (yE l (S.drop 1)).1 neg0 (A++R) (-(R.length:Int)) ⟨bits0,kind0,(R.length:Int),G,true⟩ aA b _ (oS _ _ _))) ?_;rw[sS];iterate 4 refine AX ?_
 refine .seqTo 99 (.bool (decide ((acC (yE l (S.drop 1)).1)=[])||decide ((9:Int)<((acC (yE l (S.drop 1)).1).length:Int)))) [0,7,8] ?_ ?_
 ·iterate 4 refine AX ?_
  refine zC (t:=95) rfl (λhg95=>?_) (λhg95=>?_)
  ·iterate 5 refine AX ?_
   exact⟨rfl,zL rfl (by(rw[show decide ((acC (yE l (S.drop 1)).1)=[])=_ from hg95];rfl)) sX,rfl⟩
  iterate 5 refine AX ?_
  exact⟨rfl,zL rfl (by(rw[show decide ((acC (yE l (S.drop 1)).1)=[])=_ from hg95];rfl)) sX,rfl⟩
 refine .sub [(99,_),(0,_),(7,_),(8,_)] sX ?_;refine .cx rfl (λhc99=>?_) (λhc99=>?_)
 ·have htl:aoY l S=none:=by
   unfold aoY;rw[aL hc73,aN];simp only[cN,aO]at hc99;rcases hc99 with h|h
   ·exact .inl h
   exact .inr aA
  iterate 8 refine AX ?_
  have hn:aoQ l s0=none:=by
   unfold aoQ;rw[hw];simp only;rw[aL hbad,hpr];simp only;rw[aL hemp,htl]
  refine⟨⟨abI (yE l (S.drop 1)).1,neg0,A++R,-(R.length:Int),⟨bits0,kind0,(R.length:Int),G,true⟩⟩,by rw[hn];rfl,rfl,(λ_ _ _ _ _ _ hr=>by rw[hn]at hr;cases hr),?_,rfl⟩;have hrl:=ahD (yE l (S.drop 1)).1;show(abI (yE l (S.drop 1)).1).length≤s0.length;omega
 simp only[cC,aM]at hc99;have htl:aoY l S=some (if(yE l (S.drop 1)).2=true then-(num (acC (yE l (S.drop 1)).1):Int)else(num (acC (yE l (S.drop 1)).1):Int),true,abI (yE l (S.drop 1)).1):=by
  unfold aoY;rw[aL hc73,aL (by rintro(q|q);exact hc99.1 q;omega)]
 have hrl:=ahD (yE l (S.drop 1)).1;iterate 14 refine AX ?_
 refine .loopW (cgA l b (acC (yE l (S.drop 1)).1) (yE l (S.drop 1)).2 (H.set b (Wk l ⟨abI (yE l (S.drop 1)).1,neg0,A++R,-(R.length:Int),⟨bits0,kind0,(R.length:Int),G,true⟩⟩))) ((acC (yE l (S.drop 1)).1).length) ⟨0,by omega,rfl,rfl,rfl⟩ sX (hRa _) ?_;rintro _ _ _ ⟨i,hi,rfl,rfl,rfl⟩;have hdg:=aiE (yE l (S.drop 1)).1;have hn9:=ciZ (hdg.take i) (by rw[aS];omega);iterate 9 refine AX ?_
 refine .cx rfl (λhc103=>?_) (λhc103=>?_)
 ·iterate 4 refine AX ?_
  have hdi:=hdg.at (show i<(acC (yE l (S.drop 1)).1).length by omega);have hdi2:48≤((acC (yE l (S.drop 1)).1).getD ((i:Nat):Int).toNat 0).toNat∧((acC (yE l (S.drop 1)).1).getD ((i:Nat):Int).toNat 0).toNat≤57:=hdi;iterate 6 refine AX ?_
  refine .p rfl (axU (tm rfl) (zR 48) aA aA) ?_;iterate 12 refine AX ?_
  have hst:=bnB (ds:=(acC (yE l (S.drop 1)).1)) (i:=i) aA;have hdi:=hdg.at (show i<(acC (yE l (S.drop 1)).1).length by omega);refine Round.mk ⟨i+1,by omega,rfl,rfl,rfl⟩ (zI rfl (zI rfl (zI rfl (zM rfl (by rw[hst];congr 1;rw[show((i:Int)).toNat=i from rfl];omega) (zM rfl (by congr 1) yJ))))) (hRa _) aA
 iterate 11 refine AX ?_
 refine .cx rfl (λhc114=>?_) (λhc114=>?_)
 ·iterate 11 refine AX ?_
  refine .p rfl (zD U139 rfl Z3 (tm rfl)) ?_;iterate 2 refine AX ?_
  refine .p rfl (ahJ (tm rfl) (tm rfl) (by(try dsimp only);omega)) ?_;refine AX ?_;refine .p rfl (zD U139 rfl Z3 (tm rfl)) ?_;iterate 10 refine AX ?_
  have hi2:i=(acC (yE l (S.drop 1)).1).length:=by omega
  rw[hi2,dK];have hn:aoQ l s0=some (A++R,(if(yE l (S.drop 1)).2=true then-(num (acC (yE l (S.drop 1)).1):Int)else(num (acC (yE l (S.drop 1)).1):Int))-(R.length:Int),R.length,G,true,abI (yE l (S.drop 1)).1):=by
   unfold aoQ;rw[hw];simp only;rw[aL hbad,hpr];simp only;rw[aL hemp,htl]
  refine⟨⟨abI (yE l (S.drop 1)).1,neg0,A++R,-(R.length:Int)+ -(num (acC (yE l (S.drop 1)).1):Int),⟨bits0,kind0,(R.length:Int),G,true⟩⟩,by rw[hn];rfl,rfl,λ_ _ _ _ _ _ hr=>?_,(by show(abI (yE l (S.drop 1)).1).length≤s0.length;omega),rfl⟩;rw[hn]at hr;simp only[Option.some.injEq,Prod.mk.injEq]at hr;obtain⟨rfl,rfl,rfl,rfl,rfl,rfl⟩:=hr;rw[aN aB];congr 1;omega
 iterate 7 refine AX ?_
 refine .p rfl (zD U139 rfl Z3 (tm rfl)) ?_;iterate 2 refine AX ?_
 refine .p rfl (ahJ (tm rfl) (tm rfl) (by(try dsimp only);omega)) ?_;refine AX ?_;refine .p rfl (zD U139 rfl Z3 (tm rfl)) ?_;iterate 10 refine AX ?_
 have hi2:i=(acC (yE l (S.drop 1)).1).length:=by omega
 rw[hi2,dK];have hn:aoQ l s0=some (A++R,(if(yE l (S.drop 1)).2=true then-(num (acC (yE l (S.drop 1)).1):Int)else(num (acC (yE l (S.drop 1)).1):Int))-(R.length:Int),R.length,G,true,abI (yE l (S.drop 1)).1):=by
  unfold aoQ;rw[hw];simp only;rw[aL hbad,hpr];simp only;rw[aL hemp,htl]
 refine⟨⟨abI (yE l (S.drop 1)).1,neg0,A++R,-(R.length:Int)+(num (acC (yE l (S.drop 1)).1):Int),⟨bits0,kind0,(R.length:Int),G,true⟩⟩,by rw[hn];rfl,rfl,λ_ _ _ _ _ _ hr=>?_,(by show(abI (yE l (S.drop 1)).1).length≤s0.length;omega),rfl⟩;rw[hn]at hr;simp only[Option.some.injEq,Prod.mk.injEq]at hr;obtain⟨rfl,rfl,rfl,rfl,rfl,rfl⟩:=hr;rw[aL (by rw[hc114];decide)];congr 1;omega
end
section
open Go Go.RowKit
theorem zr79:ZR 79 [.int .u64 0,.int .i64 0,.int .i64 0,.bool false,.bool false]:=ZRi zeroValue79
theorem pl79:PL 79 [(0,1),(1,1),(2,1),(3,1),(4,1)]:=PLi U79
theorem zr139:ZR 139 [.str [],.str [],.str [],.str [],.str [],.str [],.str [],.bool false,.bool false,.int .i64 0,.str [],.bool false,.str [],.int .i64 0,.int .u64 0,.int .i64 0,.int .i64 0,.bool false,.bool false]:=ZRi zeroValue139
theorem pl139:PL 139 [(0,10),(10,1),(11,1),(12,1),(13,1),(14,5)]:=PLi U139
open Go.Lib
set_option maxRecDepth 100000
theorem bwU(hl:l.fine){e:Int}(h:bgS l t d e k gr x):d.length≤t.length:=by
 obtain⟨W,R,E,p,dd,n,rfl,hp,hw,hR,hne,hE,rfl,rfl,rfl⟩:=h;have h1:dd.length≤W.length:=by
  rcases adS hl hw with⟨_,rfl,_⟩|⟨d0,s0,d1,rfl,_,_,hc,rfl,_,_⟩
  ·exact Nat.zero_le _
  have:=(hc.len hl).1;simp only[aP];omega
 cases p with
 |true=>simp only[if_true,aP];omega
 |false=>rw[hp rfl];simp only[aP,bN];omega
theorem bbA(hl:l.entOk){T Z:List UInt8}{e:Int}(h:aoQ l T=some (d,e,k,gr,x,Z)):Digs d∧d.length≤T.length∧e≤2000000000∧ -1000000000-(T.length:Int)≤e∧Z.length≤T.length:=by
 obtain⟨t,rfl,hO⟩:=baX hl.fine hl.second h;have h1:=auJ (bnC hl.fine hl.grpOk hO);have h2:=bwU hl.fine hO;rw[aP];exact⟨h1.1,by omega,h1.2.2.1,by omega,by omega⟩
theorem auQ(s:List UInt8)(n:Nat):(zU (s.drop n)).length≤s.length:=aZ (agB _) (by rw[bD];omega)
theorem caU(s p:List UInt8):(trimPrefix s p).length≤s.length:=aeO _ _
theorem azH(l:Loc)(hl:l.entOk)(hk:l.ok)(hg:l.grp≠[])(s0:List UInt8)(neg0:Bool)(ds0:List UInt8)(e0:Int)(bits0:Nat)(hq:s0.length≤1000)(b:Nat)(H:Heap)(hb:H.objs b=some (Wk l ⟨s0,neg0,ds0,e0,⟨bits0,0,0,false,false⟩⟩)):ACall prog 103 [.ptr (some ⟨b,0,none⟩)] H (λy H'=>∃q':WkN,y= .bool (ajV l s0).isSome∧H'=H.set b (Wk l q')∧(∀kd d e k gr x z,ajV l s0=some ((kd,d,e,k,gr,x),z)→q'=⟨z,neg0,d,e,⟨bits0,kd,(k:Int),gr,x⟩⟩)∧q'.s.length≤s0.length∧q'.neg=neg0):=by
 have hlb:=agB s0;refine .of_body func103 rfl ntmps103 results103 rfl ?_;iterate 10 refine AX ?_
 refine .p rfl (zD U139 rfl Z31 (tm rfl)) (.p rfl (zD U31 rfl Z9 (tm rfl)) ?_);refine AX ?_;refine .e rfl (zB C101 (evs2 rfl rfl) (takeW l _ _ _ _ _ (aZ hq aC) b _ hb _)) ?_;iterate 3 refine AX ?_
 refine .meet (λenv H2=>∃(s1:List UInt8)(kd:Int)(F:Bool),hasPrefix s0 l.cur=F∧(F=true→s1=zU (s0.drop l.cur.length)∧kd=2)∧(F=false→s1=s0∧kd=0)∧s1.length≤s0.length∧env=[(0,.ptr (some ⟨b,0,none⟩)),(3,.bool F)]∧H2=H.set b (Wk l ⟨s1,neg0,ds0,e0,⟨bits0,kd,0,false,false⟩⟩)) ?_ ?_
 ·iterate 5 refine AX ?_
  refine .cx rfl (λhc15=>?_) (λhc15=>?_)
  ·rw[acD hc15];iterate 4 refine AX ?_
   refine .p rfl (zD U139 rfl Z79 (tm rfl)) (.p rfl (zD U79 rfl Z3 (tm rfl)) ?_);iterate 5 refine AX ?_
   refine .s rfl (zB C100 (evs1 rfl) (blanksW l (s0.drop l.cur.length) neg0 ds0 e0 ⟨bits0,2,0,false,false⟩ (by rw[bD];omega) b _ (oS _ _ _))) ?_;rintro _ _ rfl;rw[sS];iterate 2 refine AX ?_
   refine .mk ⟨_,2,true,hc15,λ_=>⟨rfl,rfl⟩,(λq=>by cases q),auQ _ _,rfl,rfl⟩ (zI rfl (zM rfl (by rw[hc15]) yJ)) (hRa _)
  rw[adT hc15];iterate 2 refine AX ?_
  refine .mk ⟨s0,0,false,hc15,(λq=>by cases q),λ_=>⟨rfl,rfl⟩,aV _,rfl,rfl⟩ (zI rfl (zM rfl (by rw[hc15]) yJ)) (hRa _)
 rintro _ _ ⟨s1,kd,F,hf,h2,h0,hsl,rfl,rfl⟩;iterate 3 refine AX ?_
 refine .s rfl (zB call170 (evs1 rfl) (azG l hk hl.second hg s1 neg0 ds0 e0 bits0 kd aA b _ (oS _ _ _))) ?_;rintro _ _ ⟨q1,rfl,hH,hq1,hql,hqn⟩;obtain rfl:=hH.symm;rw[sS];iterate 10 refine AX ?_
 refine .cx rfl (λhc25=>?_) (λhc25=>?_)
 ·have hnn:aoQ l s1=none:=by simpa using hc25
  have hn:ajV l s0=none:=by
   cases F with
   |true=>obtain⟨rfl,rfl⟩:=h2 rfl;unfold ajV;rw[aN hf,hnn]
   |false=>obtain⟨rfl,rfl⟩:=h0 rfl;unfold ajV;rw[aL (by rw[hf];decide),hnn]
  iterate 8 refine AX ?_
  refine⟨_,by rw[hn];rfl,rfl,(λ_ _ _ _ _ _ _ hr=>by rw[hn]at hr;cases hr),?_,hqn⟩;show q1.s.length≤s0.length;omega
 obtain⟨⟨d,e,k,gr,x,z⟩,hnn⟩:=gI.1 (show(aoQ l s1).isSome=true by simpa using hc25);have hq2:=hq1 _ _ _ _ _ _ hnn;subst hq2;obtain⟨hdd,hdl,he1,he2,hzl⟩:=bbA hl hnn;clear hql hqn hq1;iterate 8 refine AX ?_
 refine .cx rfl (λhc26=>?_) (λhc26=>?_)
 ·have hF2:F=true:=hc26;obtain⟨rfl,rfl⟩:=h2 hF2;iterate 8 refine AX ?_
  have hn:ajV l s0=some ((2,d,e,k,gr,x),z):=by
   unfold ajV;rw[aN (hf.trans hF2),hnn]
  refine⟨⟨z,neg0,d,e,⟨bits0,2,(k:Int),gr,x⟩⟩,by rw[hn];rfl,rfl,λ_ _ _ _ _ _ _ hr=>?_,?_,rfl⟩
  ·rw[hn]at hr;simp only[Option.some.injEq,Prod.mk.injEq]at hr;obtain⟨⟨rfl,rfl,rfl,rfl,rfl,rfl⟩,rfl⟩:=hr;rfl
  show z.length≤s0.length;omega
 have hF2:F=false:=hc26;iterate 3 refine AX ?_
 obtain⟨h1,rfl⟩:=h0 hF2;have h1:=h1.symm;subst h1;have hF:=hf.trans hF2;have hlz:=agB z;iterate 3 refine AX ?_
 refine .p rfl (zD U139 rfl Z9 (tm rfl)) ?_;iterate 7 refine AX ?_
 refine .s rfl (zB C100 (evs1 rfl) (blanksW l z _ _ _ _ aA b _ (oS _ _ _))) ?_;rintro _ _ rfl;rw[sS];iterate 7 refine AX ?_
 refine .p rfl (zD U139 rfl Z31 (tm rfl)) (.p rfl (zD U31 rfl Z9 (tm rfl)) ?_);refine AX ?_;refine .e rfl (zB C101 (evs2 rfl rfl) (takeW l (zU z) _ _ _ _ aA b _ (oS _ _ _) _)) ?_;rw[sS];iterate 9 refine AX ?_
 refine .cx rfl (λhc40=>?_) (λhc40=>?_)
 ·rw[acD hc40];iterate 4 refine AX ?_
  refine .p rfl (zD U139 rfl Z79 (tm rfl)) (.p rfl (zD U79 rfl Z3 (tm rfl)) ?_);iterate 8 refine AX ?_
  refine .p rfl (zD U139 rfl Z3 (tm rfl)) ?_;refine AX ?_;refine .p rfl (adK (tm rfl) zH (by(try dsimp only);omega)) ?_;refine AX ?_;refine .p rfl (zD U139 rfl Z3 (tm rfl)) ?_;iterate 11 refine AX ?_
  have hn:ajV l s0=some ((1,d,e-2,k,gr,x),(zU z).drop l.pct.length):=by
   unfold ajV;rw[aL (by rw[hF];decide),hnn];simp only;rw[aN hc40]
  refine⟨⟨(zU z).drop l.pct.length,neg0,d,e-2,⟨bits0,1,(k:Int),gr,x⟩⟩,by rw[hn];rfl,rfl,λ_ _ _ _ _ _ _ hr=>?_,?_,rfl⟩
  ·rw[hn]at hr;simp only[Option.some.injEq,Prod.mk.injEq]at hr;obtain⟨⟨rfl,rfl,rfl,rfl,rfl,rfl⟩,rfl⟩:=hr;rfl
  show((zU z).drop l.pct.length).length≤s0.length;rw[bD];omega
 rw[adT hc40];iterate 7 refine AX ?_
 refine .p rfl (zD U139 rfl Z31 (tm rfl)) (.p rfl (zD U31 rfl Z9 (tm rfl)) ?_);refine AX ?_;refine .e rfl (zB C101 (evs2 rfl rfl) (takeW l (zU z) _ _ _ _ aA b _ (oS _ _ _) _)) ?_;rw[sS];iterate 9 refine AX ?_
 refine .cx rfl (λhc60=>?_) (λhc60=>?_)
 ·rw[acD hc60];iterate 4 refine AX ?_
  refine .p rfl (zD U139 rfl Z79 (tm rfl)) (.p rfl (zD U79 rfl Z3 (tm rfl)) ?_);iterate 11 refine AX ?_
  have hn:ajV l s0=some ((2,d,e,k,gr,x),(zU z).drop l.cur.length):=by
   unfold ajV;rw[aL (by rw[hF];decide),hnn];simp only;rw[aL (by rw[hc40];decide),aN hc60]
  refine⟨⟨(zU z).drop l.cur.length,neg0,d,e,⟨bits0,2,(k:Int),gr,x⟩⟩,by rw[hn];rfl,rfl,λ_ _ _ _ _ _ _ hr=>?_,?_,rfl⟩
  ·rw[hn]at hr;simp only[Option.some.injEq,Prod.mk.injEq]at hr;obtain⟨⟨rfl,rfl,rfl,rfl,rfl,rfl⟩,rfl⟩:=hr;rfl
  show((zU z).drop l.cur.length).length≤s0.length;rw[bD];omega
 rw[adT hc60];iterate 7 refine AX ?_
 refine .p rfl (zD U139 rfl Z9 (tm rfl)) ?_;iterate 10 refine AX ?_
 have hn:ajV l s0=some ((0,d,e,k,gr,x),z):=by
  unfold ajV;rw[aL (by rw[hF];decide),hnn];simp only;rw[aL (by rw[hc40];decide),aL (by rw[hc60];decide)]
 refine⟨⟨z,neg0,d,e,⟨bits0,0,(k:Int),gr,x⟩⟩,by rw[hn];rfl,rfl,λ_ _ _ _ _ _ _ hr=>?_,?_,rfl⟩
 ·rw[hn]at hr;simp only[Option.some.injEq,Prod.mk.injEq]at hr;obtain⟨⟨rfl,rfl,rfl,rfl,rfl,rfl⟩,rfl⟩:=hr;rfl
 show z.length≤s0.length;omega
def arC(l:Loc)(s:List UInt8):EntN×Int:=if 1000<s.length then(EntN.zero,4)else bjP (bhA l s)
theorem cfA(hl:l.entOk){T z:List UInt8}{e:Int}(h:ajV l T=some ((kd,d,e,k,gr,x),z)):Digs d∧d.length≤T.length∧e≤2000000000∧ -1000000002-(T.length:Int)≤e:=by
 unfold ajV at h;split at h
 ·cases hn:aoQ l (zU (T.drop l.cur.length))with
  |none=>rw[hn]at h;cases h
  |some q=>
   obtain⟨d2,e2,k2,g2,x2,z2⟩:=q;rw[hn]at h;simp only[Option.some.injEq,Prod.mk.injEq]at h;obtain⟨⟨rfl,rfl,rfl,rfl,rfl,rfl⟩,rfl⟩:=h;have h1:=bbA hl hn;have h2:=auQ T l.cur.length;exact⟨h1.1,by omega,h1.2.2.1,by omega⟩
 cases hn:aoQ l T with
 |none=>rw[hn]at h;cases h
 |some q=>
  obtain⟨d2,e2,k2,g2,x2,z2⟩:=q;rw[hn]at h;have h1:=bbA hl hn;simp only at h;split at h
  ·simp only[Option.some.injEq,Prod.mk.injEq]at h;obtain⟨⟨rfl,rfl,rfl,rfl,rfl,rfl⟩,rfl⟩:=h;exact⟨h1.1,h1.2.1,by omega,by omega⟩
  split at h<;>(simp only[Option.some.injEq,Prod.mk.injEq]at h;obtain⟨⟨rfl,rfl,rfl,rfl,rfl,rfl⟩,rfl⟩:=h;exact⟨h1.1,h1.2.1,by omega,by omega⟩)
theorem bzY(hl:l.entOk){s s2 s3:List UInt8}{O ok:Bool}{q1:WkN}(hs:(zU s2).length≤1000)(hO:hasPrefix (zU s) [40]=O)(hO1:O=true→s2=(zU s).drop 1∧neg=true)(hO2:O=false→yE l (zU s)=(s2,neg))
  (hO3:O=true→ok=((ajV l (zU s2)).isSome&&hasPrefix (zU q1.s) [41])∧s3=zU (trimPrefix (zU q1.s) [41]))(hO4:O=false→ok=(ajV l (zU s2)).isSome∧s3=zU q1.s)
  (hq1:∀kd d e k gr x z,ajV l (zU s2)=some ((kd,d,e,k,gr,x),z)→q1=⟨z,neg,d,e,⟨0,kd,(k:Int),gr,x⟩⟩):
  ((!ok||decide (s3≠[]))=false→∃(z:List UInt8)(kd:Int)(d:List UInt8)(e:Int)(k:Nat)(gr x:Bool),bhA l s=some (neg,kd,d,e,k,gr,x)∧q1=⟨z,neg,d,e,⟨0,kd,(k:Int),gr,x⟩⟩∧s3=[]∧Digs d∧d.length≤1000∧ -3000000000≤e∧e≤2000000000)∧((!ok||decide (s3≠[]))=true→bhA l s=none):=by
 cases ha:ajV l (zU s2)with
 |none=>
  have hok:ok=false:=by
   rw[ha]at hO3 hO4;cases O with
   |true=>rw[(hO3 rfl).1];rfl
   |false=>rw[(hO4 rfl).1];rfl
  rw[hok];refine⟨(λh=>by cases h),λ_=>?_⟩;unfold bhA;cases O with
  |true=>rw[aN hO,←(hO1 rfl).1,ha]
  |false=>rw[aL (by rw[hO];decide),hO2 rfl];simp only;rw[ha]
 |some r=>
  obtain⟨⟨kd,d,e,k,gr,x⟩,z⟩:=r;have hq:=hq1 _ _ _ _ _ _ _ ha;have hrg:=cfA hl ha;subst hq;rw[ha]at hO3 hO4;simp only[Option.isSome_some,Bool.true_and]at hO3 hO4;have key:(bhA l s=if ok=true∧s3=[]then some (neg,kd,d,e,k,gr,x)else none):=by
   unfold bhA;cases O with
   |true=>
    obtain⟨h1,h2⟩:=hO3 rfl;rw[aN hO,←(hO1 rfl).1,ha];simp only;rw[h1,h2,(hO1 rfl).2];cases hp:hasPrefix (zU z) [41]with
    |true=>rw[acD hp];rfl
    |false=>rw[aL (λq=>by cases q.1),aL (λq=>by cases q.1)]
   |false=>
    obtain⟨h1,h2⟩:=hO4 rfl;rw[aL (by rw[hO];decide),hO2 rfl];simp only;rw[ha];simp only;rw[h1,h2];by_cases hz:zU z=[]
    ·rw[aN hz,aN ⟨rfl,hz⟩]
    rw[aL hz,aL (λq=>hz q.2)]
  rw[key];constructor
  ·intro h;simp only[cC,dF,aM,dY]at h;rw[aN h];exact⟨z,kd,d,e,k,gr,x,rfl,rfl,h.2,hrg.1,by omega,by omega,by omega⟩
  intro h;rw[aL];rintro⟨q1,q2⟩;rw[q1,q2]at h;simp at h
theorem cmT{e:Int}(h:(mkN neg d e).2≠0):bjP (some (neg,kd,d,e,k,gr,x))=(EntN.zero,2):=aN h
theorem cmU{e:Int}{y:Nat}(hy:y=akQ (mkN neg d e).1.1 (mkN neg d e).1.2.1 (mkN neg d e).1.2.2)(h:¬(mkN neg d e).2≠0):bjP (some (neg,kd,d,e,k,gr,x))=if zK y=3 then(EntN.zero,2)else(⟨y,kd,k,gr,x⟩,0):=by
 unfold bjP;simp only;rw[aL h,hy]
theorem beF(l:Loc)(hl:l.entOk)(hk:l.ok)(hg:l.grp≠[])(s:List UInt8)(hs:s.length≤2000):Fn 39 [.str s,rL l] (.tuple [.agg (arC l s).1.cs,.int .i64 (arC l s).2]):=by
 intro H;have hlb:=agB s;refine .of_body func39 rfl ntmps39 results39 rfl ?_;iterate 3 refine AX ?_
 refine .al zr79 (λb4 hb4=>?_);iterate 11 refine AX ?_
 refine .cx rfl (λhc16=>?_) (λhc16=>?_)
 ·have hen:arC l s=(EntN.zero,4):=by unfold arC;rw[aJ]
  iterate 2 refine AX ?_
  refine .p rfl (zX zr79 pl79 .nil rfl) ?_;iterate 4 refine AX ?_
  refine .frz (t:=4) rfl (hb4) ?_;iterate 3 refine AX ?_
  rw[hen];exact⟨rfl,rfl⟩
 have hs1:s.length≤1000:=by omega
 have hen:arC l s=bjP (bhA l s):=by unfold arC;rw[aI]
 iterate 6 refine AX ?_
 refine .p rfl (zX zr139 pl139 (.cons (tm rfl) (.inr ⟨_,rfl⟩) (.cons (tm rfl) (.inl rfl) .nil)) rfl) (.s rfl (anD (tm rfl) (.inr ⟨_,rfl⟩)) ?_);rintro _ _ ⟨b21,hb21,rfl,hH⟩;obtain rfl:=hH.symm;have hn4_21:=Heap.ne_of (oS _ _ _) hb21;iterate 6 refine AX ?_
 refine .s rfl (zB C100 (evs1 rfl) (blanksW l s false [] 0 ⟨0,0,0,false,false⟩ hs b21 _ (oS _ _ _))) ?_;rintro _ _ rfl;rw[sS];iterate 5 refine AX ?_
 refine .e rfl (zB C101 (.cons (tm rfl) (.cons (zO rfl) .nil)) (takeW l (zU s) _ _ _ _ aA b21 _ (oS _ _ _) _)) ?_;rw[sS];iterate 3 refine AX ?_
 refine .meet (λenv H2=>∃(s2:List UInt8)(neg O:Bool),hasPrefix (zU s) [40]=O∧(O=true→s2=(zU s).drop 1∧neg=true)∧(O=false→yE l (zU s)=(s2,neg))∧s2.length≤s.length∧env=[(4,.ptr (some ⟨b4,0,none⟩)),(5,.int .i64 0),(6,.ptr (some ⟨b21,0,none⟩)),(7,.bool O)]∧H2=(H.set b4 (.box 79 (EntN.cs EntN.zero))).set b21 (Wk l ⟨s2,neg,[],0,⟨0,0,0,false,false⟩⟩)) ?_ ?_
 ·iterate 5 refine AX ?_
  refine .cx rfl (λhc26=>?_) (λhc26=>?_)
  ·rw[acD hc26];iterate 3 refine AX ?_
   refine .p rfl (zD U139 rfl Z4 (tm rfl)) ?_;iterate 3 refine AX ?_
   refine .mk ⟨_,true,true,hc26,λ_=>⟨rfl,rfl⟩,(λq=>by cases q),(by rw[bD];omega),rfl,rfl⟩ (zI rfl (zI rfl (zI rfl (zM rfl (by rw[hc26]) yJ)))) (hRa _)
  rw[adT hc26];iterate 3 refine AX ?_
  refine .s rfl (zB call102 (evs1 rfl) (rsignW l (zU s) false [] 0 ⟨0,0,0,false,false⟩ aA b21 _ (oS _ _ _))) ?_;rintro _ _ ⟨⟨g1,rfl⟩,hH⟩;obtain rfl:=hH.symm;rw[sS];iterate 11 refine AX ?_
  refine .p rfl (zD U139 rfl Z4 (tm rfl)) ?_;iterate 3 refine AX ?_
  refine .mk ⟨(yE l (zU s)).1,(yE l (zU s)).2,false,hc26,(λq=>by cases q),λ_=>rfl,(by have:=anF l (zU s);omega),rfl,rfl⟩ (zI rfl (zI rfl (zI rfl (zM rfl (by rw[hc26]) yJ)))) (hRa _)
 rintro _ _ ⟨s2,neg,O,hO,hO1,hO2,hs2l,rfl,rfl⟩;have hl2:=agB s2;iterate 3 refine AX ?_
 refine .s rfl (zB C100 (evs1 rfl) (blanksW l s2 _ _ _ _ aA b21 _ (oS _ _ _))) ?_;rintro _ _ rfl;rw[sS];iterate 5 refine AX ?_
 refine .s rfl (zB call103 (evs1 rfl) (azH l hl hk hg (zU s2) neg [] 0 0 aA b21 _ (oS _ _ _))) ?_;rintro _ _ ⟨q1,rfl,hH,hq1,hql,hqn⟩;obtain rfl:=hH.symm;rw[sS];have hlq:=agB q1.s;iterate 6 refine AX ?_
 refine .s rfl (zB C100 (evs1 rfl) (blanksW l q1.s q1.neg q1.digits q1.exp q1.out aA b21 _ (oS _ _ _))) ?_;rintro _ _ rfl;rw[sS];iterate 2 refine AX ?_
 refine .meet (λenv H2=>∃(s3:List UInt8)(ok:Bool),(O=true→ok=((ajV l (zU s2)).isSome&&hasPrefix (zU q1.s) [41])∧s3=zU (trimPrefix (zU q1.s) [41]))∧(O=false→ok=(ajV l (zU s2)).isSome∧s3=zU q1.s)∧env=[(4,.ptr (some ⟨b4,0,none⟩)),(5,.int .i64 0),(6,.ptr (some ⟨b21,0,none⟩)),(10,.bool ok)]∧H2=(H.set b4 (.box 79 (EntN.cs EntN.zero))).set b21 (Wk l ⟨s3,neg,q1.digits,q1.exp,q1.out⟩)) ?_ ?_
 ·iterate 5 refine AX ?_
  refine .cx rfl (λhc45=>?_) (λhc45=>?_)
  ·iterate 3 refine AX ?_
   refine .e rfl (zB C101 (.cons (tm rfl) (.cons (zO rfl) .nil)) (takeW l (zU q1.s) q1.neg q1.digits q1.exp q1.out aA b21 _ (oS _ _ _) _)) ?_;rw[sS];iterate 3 refine AX ?_
   refine .seqTo 10 (.bool ((ajV l (zU s2)).isSome&&hasPrefix (zU q1.s) [41])) [4,5,6] ?_ ?_
   ·iterate 3 refine AX ?_
    refine zC (t:=49) rfl (λhg49=>?_) (λhg49=>?_)
    ·iterate 4 refine AX ?_
     exact⟨rfl,zL rfl aH sX,rfl⟩
    iterate 4 refine AX ?_
    exact⟨rfl,zL rfl aH sX,rfl⟩
   refine .sub [(10,_),(4,_),(5,_),(6,_)] sX ?_;iterate 2 refine AX ?_
   refine .s rfl (zB C100 (evs1 rfl) (blanksW l (trimPrefix (zU q1.s) [41]) q1.neg q1.digits q1.exp q1.out (by have:=caU (zU q1.s) [41];omega) b21 _ (oS _ _ _))) ?_;rintro _ _ rfl;rw[sS];iterate 2 refine AX ?_
   refine .mk ⟨_,_,λ_=>⟨rfl,rfl⟩,(λq=>by rw[q]at hc45;cases hc45),rfl,rfl⟩ sX (by rw[←hqn];exact hRa _)
  iterate 2 refine AX ?_
  refine .mk ⟨_,_,(λq=>by rw[q]at hc45;cases hc45),λ_=>⟨rfl,rfl⟩,rfl,rfl⟩ sX (by rw[←hqn];exact hRa _)
 rintro _ _ ⟨s3,ok,hO3,hO4,rfl,rfl⟩;have hacc:=bzY hl aA hO hO1 hO2 hO3 hO4 hq1;refine AX ?_;refine .seqTo 62 (.bool (!ok||decide (s3≠[]))) [4,5,6] ?_ ?_
 ·iterate 4 refine AX ?_
  refine zC (t:=56) rfl (λhg56=>?_) (λhg56=>?_)
  ·iterate 7 refine AX ?_
   exact⟨rfl,zL rfl (by(simp[*];done)) sX,rfl⟩
  iterate 2 refine AX ?_
  refine .gp rfl rfl rfl aB (zD U139 rfl Z9 (tm rfl)) (.gs rfl rfl rfl aB (yC G9 (tm rfl) (oS _ _ _) rfl) ?_);rintro _ _ ⟨rfl,hH⟩;obtain rfl:=hH.symm;iterate 3 refine AX ?_
  exact⟨rfl,zL rfl (by(simp[*];done)) sX,rfl⟩
 refine .sub [(62,_),(4,_),(5,_),(6,_)] sX ?_;refine .cx rfl (λhc62=>?_) (λhc62=>?_)
 ·rw[hacc.2 hc62]at hen;iterate 2 refine AX ?_
  refine .p rfl (zX zr79 pl79 .nil rfl) ?_;iterate 4 refine AX ?_
  refine .dropb (hb21) ?_;refine .frz (t:=4) rfl (hb4) ?_;iterate 3 refine AX ?_
  rw[hen];exact⟨rfl,rfl⟩
 obtain⟨z,kd,d,e,k,gr,x,hac,hq2,rfl,hdd,hdl,he1,he2⟩:=hacc.1 hc62;subst hq2;rw[hac]at hen;have hrb:(bgX (mkN neg d e).1.1 (mkN neg d e).1.2.1 (mkN neg d e).1.2.2)=akQ (mkN neg d e).1.1 (mkN neg d e).1.2.1 (mkN neg d e).1.2.2:=bvU (alC hdd);have hbt:(bgX (mkN neg d e).1.1 (mkN neg d e).1.2.1 (mkN neg d e).1.2.2)<18446744073709551616:=by rw[hrb];exact bbX _ _ _
 iterate 3 refine AX ?_
 refine .drawI (λH2=>H2.objs b21=some (Wk l ⟨[],neg,d,e,⟨0,kd,(k:Int),gr,x⟩⟩)) [(0,true),(1,true),(2,true),(3,true),(4,true),(5,true),(6,true),(7,true),(8,true),(9,true),(10,true),(11,true),(12,true),(13,true),(14,true),(15,true),(16,false),(17,false),(18,true)] (by exact oS _ _ _) rfl aE ?_;iterate 2 refine AX ?_
 refine .p rfl rfl (zD U139 rfl Z4 (tm rfl)) ?_;refine .f rfl rfl (λ_ hI=>yC G4 (tm rfl) (hI) rfl) ?_;iterate 2 refine AX ?_
 refine .p rfl rfl (zD U139 rfl Z9 (tm rfl)) ?_;refine .f rfl rfl (λ_ hI=>yC G9 (tm rfl) (hI) rfl) ?_;iterate 2 refine AX ?_
 refine .p rfl rfl (zD U139 rfl Z3 (tm rfl)) ?_;refine .f rfl rfl (λ_ hI=>yC G3 (tm rfl) (hI) rfl) ?_;refine .f rfl rfl (λ_ hI=>zB C104 (evs3 rfl rfl rfl) (ajB neg d e hdd aA (by constructor<;>omega) _)) ?_;iterate 3 refine AX ?_
 refine .s rfl rfl (ahU zr58) ?_;rintro _ _ ⟨b12,hb12,rfl,hH⟩;obtain rfl:=hH.symm;have hn4_12:=Heap.ne_of (oS _ _ _) hb12;have hn21_12:=Heap.ne_of (oS _ _ _) hb12;refine⟨by first|exact(oN _ _ aB).trans (oS _ _ _)|skip,?_⟩;refine .s0 rfl (zN Z58 (tm rfl) (tm rfl) rfl rfl (.inr ⟨_,rfl⟩) (oS _ _ _) (lB rfl)) ?_;rintro _ _ ⟨rfl,hH⟩;obtain rfl:=hH.symm;try first|rw[sS]|rw[sU aB]
 refine⟨by first|exact(oN _ _ aB).trans (oS _ _ _)|skip,?_⟩;iterate 3 refine AX ?_
 refine .frz (t:=12) rfl (hb12) ?_;iterate 7 refine AX ?_
 refine .cx rfl (λhc81=>?_) (λhc81=>?_)
 ·have hm0:(mkN neg d e).2≠0:=by simpa using hc81
  rw[cmT hm0]at hen;iterate 2 refine AX ?_
  refine .p rfl (zX zr79 pl79 .nil rfl) ?_;iterate 4 refine AX ?_
  refine .dropb (hb21) ?_;refine .frz (t:=4) rfl (hb4) ?_;iterate 3 refine AX ?_
  rw[hen];exact⟨rfl,rfl⟩
 have hm0:¬(mkN neg d e).2≠0:=by simpa using hc81
 rw[cmU hrb hm0]at hen;iterate 6 refine AX ?_
 refine .cl rfl call29 (evs1 rfl) (beG (mkN neg d e).1.1 (mkN neg d e).1.2.1 (mkN neg d e).1.2.2 (alC hdd) (by have:=cgL neg d e;omega) _) ?_;refine AX ?_;refine .p rfl (zD U139 rfl Z79 (tm rfl)) (.p rfl (zD U79 rfl Z22 (tm rfl)) ?_);iterate 8 refine AX ?_
 refine .p rfl (zD U139 rfl Z79 (tm rfl)) (.p rfl (zD U79 rfl Z22 (tm rfl)) ?_);refine AX ?_;refine .cl rfl C25 (evs1 rfl) (qA (bgX (mkN neg d e).1.1 (mkN neg d e).1.2.1 (mkN neg d e).1.2.2) hbt _) ?_;iterate 3 refine AX ?_
 refine .cx rfl (λhc95=>?_) (λhc95=>?_)
 ·have hk3:zK (bgX (mkN neg d e).1.1 (mkN neg d e).1.2.1 (mkN neg d e).1.2.2)=3:=by omega
  rw[aN hk3]at hen;iterate 2 refine AX ?_
  refine .p rfl (zX zr79 pl79 .nil rfl) ?_;iterate 4 refine AX ?_
  refine .dropb (hb21) ?_;refine .frz (t:=4) rfl (hb4) ?_;iterate 3 refine AX ?_
  rw[hen];exact⟨rfl,rfl⟩
 have hk3:¬zK (bgX (mkN neg d e).1.1 (mkN neg d e).1.2.1 (mkN neg d e).1.2.2)=3:=by omega
 rw[aL hk3]at hen;iterate 6 refine AX ?_
 refine .p rfl (zD U139 rfl Z79 (tm rfl)) ?_;iterate 5 refine AX ?_
 refine .dropb (fS hb21 _) ?_;refine .frz (t:=4) rfl (hb4) ?_;iterate 2 refine AX ?_
 rw[hen];exact⟨rfl,rfl⟩
end
end Go.Proofs.YtmmgbnolccpjoaaGreatDoor
