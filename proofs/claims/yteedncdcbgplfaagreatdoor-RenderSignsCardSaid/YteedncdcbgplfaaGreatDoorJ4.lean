import Derived.Test.YteedncdcbgplfaaGreatDoorJ3
set_option maxHeartbeats 1000000
namespace Go.Proofs.YteedncdcbgplfaaGreatDoor
open Go.Proofs.Tryz
open Go Go.RowKit
set_option maxRecDepth 100000
def afN(c:Nat):Nat×Nat×Nat:=if 194≤c∧c<224 then(2,c-192,128)else if 224≤c∧c<240 then(3,c-224,2048)else if 240≤c∧c<245 then(4,c-240,65536)else(0,0,0)
theorem byX(c:Nat):(afN c).1≤4∧(afN c).2.1<64:=by
 unfold afN;repeat' split
 all_goals (simp only[];omega)
theorem bjY{s:List UInt8}(h:s≠[])(h1:¬(s.getD 0 0).toNat<128):awS s=if(afN (s.getD 0 0).toNat).1=0∨s.length<(afN (s.getD 0 0).toNat).1 then 0 else anG s (afN (s.getD 0 0).toNat).1 (afN (s.getD 0 0).toNat).2.1 (afN (s.getD 0 0).toNat).2.2:=by
 unfold awS afN;rw[aM h,aM h1];by_cases a:194≤(s.getD 0 0).toNat∧(s.getD 0 0).toNat<224
 ·simp only[aN a];unfold anG;by_cases q:s.length<2<;>simp[q]
 by_cases b:224≤(s.getD 0 0).toNat∧(s.getD 0 0).toNat<240
 ·simp only[aM a,aN b];unfold anG;by_cases q:s.length<3<;>simp[q]
 by_cases d:240≤(s.getD 0 0).toNat∧(s.getD 0 0).toNat<245
 ·simp only[aM a,aM b,aN d];unfold anG;by_cases q:s.length<4<;>simp[q]
 simp only[aM a,aM b,aM d];simp
theorem bxE{s:List UInt8}{v i:Nat}(hv:v<64)(h1:1≤i)(h4:i≤4)(h:ayM s i):anM s v (i-1)<16777216:=by
 have c1:1<i→(s.getD 1 0).toNat<192:=λq=>(h 1 (bB _) q).2;have c2:2<i→(s.getD 2 0).toNat<192:=λq=>(h 2 aA q).2;have c3:3<i→(s.getD 3 0).toNat<192:=λq=>(h 3 aA q).2;rcases(by omega:i=1∨i=2∨i=3∨i=4)with rfl|rfl|rfl|rfl
 ·show v<_;omega
 ·show 64*v+((s.getD 1 0).toNat-128)<_;omega
 ·show 64*(64*v+((s.getD 1 0).toNat-128))+((s.getD 2 0).toNat-128)<_;omega
 show 64*(64*(64*v+((s.getD 1 0).toNat-128))+((s.getD 2 0).toNat-128))+((s.getD 3 0).toNat-128)<_;omega
theorem bwY(s:List UInt8):ayM s 1:=λi a b=>by omega
theorem bzN(s:List UInt8)(v:Nat){i:Nat}(h:1≤i):anM s v (i+1-1)=64*anM s v (i-1)+((s.getD i 0).toNat-128):=by
 obtain⟨j,rfl⟩:∃j,i=j+1:=⟨i-1,by omega⟩;rfl
def bsT(s:List UInt8)(n v low:Nat)(H:Heap):Nat→Env→Heap→Prop:=λk env H1=>∃i:Nat,1≤i∧(i=1∨i≤n)∧ayM s i∧env=[(0,.str s),(4,.int .i64 (n:Int)),(5,.int .i64 (low:Int)),(6,.int .i64 (anM s v (i-1):Int)),(7,.int .i64 (i:Int))]∧H=H1∧k=n-i
set_option maxRecDepth 100000 in
theorem baB(s:List UInt8):Fn 129 [.str s] (.int .i64 (awS s:Int)):=by
 intro H;refine .of_body func129 rfl ntmps129 results129 rfl ?_;iterate 12 refine AX ?_
 refine .cx rfl (λhc9=>?_) (λhc9=>?_)
 ·iterate 8 refine AX ?_
  refine⟨?_,rfl⟩;rw[show s=[]from hc9];rfl
 have hs0:s≠[]:=hc9;have hsp:=bK.2 hs0;have hcb:(s.getD (Int.toNat 0) 0).toNat<256:=(s.getD 0 0).toNat_lt;have hrc:¬(s.getD (Int.toNat 0) 0).toNat<128→awS s=if(afN (s.getD (Int.toNat 0) 0).toNat).1=0∨s.length<(afN (s.getD (Int.toNat 0) 0).toNat).1 then 0 else anG s (afN (s.getD (Int.toNat 0) 0).toNat).1 (afN (s.getD (Int.toNat 0) 0).toNat).2.1 (afN (s.getD (Int.toNat 0) 0).toNat).2.2:=bjY hs0
 have hr1:(s.getD (Int.toNat 0) 0).toNat<128→awS s=1:=λh=>by unfold awS;rw[aM hs0];exact aN h
 iterate 11 refine AX ?_
 generalize hcc:(s.getD (Int.toNat 0) 0).toNat=c at *;iterate 14 refine AX ?_
 refine .meet (λenv H2=>¬c<128∧env=[(0,.str s),(4,.int .i64 ((afN c).1:Int)),(5,.int .i64 ((afN c).2.2:Int)),(6,.int .i64 ((afN c).2.1:Int))]∧H=H2) ?_ ?_
 ·iterate 8 refine AX ?_
  refine .cx rfl (λhc13=>?_) (λhc13=>?_)
  ·iterate 9 refine AX ?_
   refine⟨?_,rfl⟩;rw[hr1 aA];rfl
  refine .seqTo 16 (.bool (decide (194≤c∧c<224))) [0,2,3,4,5,6] ?_ ?_
  ·iterate 4 refine AX ?_
   refine zC (t:=19) rfl (λhg19=>?_) (λhg19=>?_)
   ·have hh19:=hg19;try simp only[aL]at hh19
    iterate 5 refine AX ?_
    exact⟨rfl,zO rfl (by(refine Eq.symm ?_;first|((with_reducible refine aO.2 ?_);(first|omega|simp[*]))|((with_reducible refine aQ ?_);(first|omega|simp[*]))|((with_reducible refine aP ?_);(first|omega|simp[*])))) sX,rfl⟩
   have hh19:=hg19;try simp only[aL]at hh19
   iterate 5 refine AX ?_
   exact⟨rfl,zO rfl (by(refine Eq.symm ?_;first|((with_reducible refine aO.2 ?_);(first|omega|simp[*]))|((with_reducible refine aQ ?_);(first|omega|simp[*]))|((with_reducible refine aP ?_);(first|omega|simp[*])))) sX,rfl⟩
  refine .sub [(16,_),(0,_),(2,_),(3,_),(4,_),(5,_),(6,_)] sX ?_;refine .cx rfl (λhc16=>?_) (λhc16=>?_)
  ·iterate 17 refine AX ?_
   refine .mk ⟨by omega,rfl,rfl⟩ (zF rfl (zU rfl (by unfold afN;first|(rw[aN aB];first|rfl|(congr 1;dsimp only;omega))|(rw[aM aB,aN aB];first|rfl|(congr 1;dsimp only;omega))|(rw[aM aB,aM aB,aN aB];first|rfl|(congr 1;dsimp only;omega))|(rw[aM aB,aM aB,aM aB];rfl)) (zU rfl (by unfold afN;first|(rw[aN aB];first|rfl|(congr 1;dsimp only;omega))|(rw[aM aB,aN aB];first|rfl|(congr 1;dsimp only;omega))|(rw[aM aB,aM aB,aN aB];first|rfl|(congr 1;dsimp only;omega))|(rw[aM aB,aM aB,aM aB];rfl)) (zU rfl (by unfold afN;first|(rw[aN aB];first|rfl|(congr 1;dsimp only;omega))|(rw[aM aB,aN aB];first|rfl|(congr 1;dsimp only;omega))|(rw[aM aB,aM aB,aN aB];first|rfl|(congr 1;dsimp only;omega))|(rw[aM aB,aM aB,aM aB];rfl)) zW)))) (hRa _)
  refine .seqTo 25 (.bool (decide (224≤c∧c<240))) [0,2,3,4,5,6] ?_ ?_
  ·iterate 4 refine AX ?_
   refine zC (t:=28) rfl (λhg28=>?_) (λhg28=>?_)
   ·have hh28:=hg28;try simp only[aL]at hh28
    iterate 5 refine AX ?_
    exact⟨rfl,zO rfl (by(refine Eq.symm ?_;first|((with_reducible refine aO.2 ?_);(first|omega|simp[*]))|((with_reducible refine aQ ?_);(first|omega|simp[*]))|((with_reducible refine aP ?_);(first|omega|simp[*])))) sX,rfl⟩
   have hh28:=hg28;try simp only[aL]at hh28
   iterate 5 refine AX ?_
   exact⟨rfl,zO rfl (by(refine Eq.symm ?_;first|((with_reducible refine aO.2 ?_);(first|omega|simp[*]))|((with_reducible refine aQ ?_);(first|omega|simp[*]))|((with_reducible refine aP ?_);(first|omega|simp[*])))) sX,rfl⟩
  refine .sub [(25,_),(0,_),(2,_),(3,_),(4,_),(5,_),(6,_)] sX ?_;refine .cx rfl (λhc25=>?_) (λhc25=>?_)
  ·iterate 17 refine AX ?_
   refine .mk ⟨by omega,rfl,rfl⟩ (zF rfl (zU rfl (by unfold afN;first|(rw[aN aB];first|rfl|(congr 1;dsimp only;omega))|(rw[aM aB,aN aB];first|rfl|(congr 1;dsimp only;omega))|(rw[aM aB,aM aB,aN aB];first|rfl|(congr 1;dsimp only;omega))|(rw[aM aB,aM aB,aM aB];rfl)) (zU rfl (by unfold afN;first|(rw[aN aB];first|rfl|(congr 1;dsimp only;omega))|(rw[aM aB,aN aB];first|rfl|(congr 1;dsimp only;omega))|(rw[aM aB,aM aB,aN aB];first|rfl|(congr 1;dsimp only;omega))|(rw[aM aB,aM aB,aM aB];rfl)) (zU rfl (by unfold afN;first|(rw[aN aB];first|rfl|(congr 1;dsimp only;omega))|(rw[aM aB,aN aB];first|rfl|(congr 1;dsimp only;omega))|(rw[aM aB,aM aB,aN aB];first|rfl|(congr 1;dsimp only;omega))|(rw[aM aB,aM aB,aM aB];rfl)) zW)))) (hRa _)
  refine .seqTo 34 (.bool (decide (240≤c∧c<245))) [0,2,3,4,5,6] ?_ ?_
  ·iterate 4 refine AX ?_
   refine zC (t:=37) rfl (λhg37=>?_) (λhg37=>?_)
   ·have hh37:=hg37;try simp only[aL]at hh37
    iterate 5 refine AX ?_
    exact⟨rfl,zO rfl (by(refine Eq.symm ?_;first|((with_reducible refine aO.2 ?_);(first|omega|simp[*]))|((with_reducible refine aQ ?_);(first|omega|simp[*]))|((with_reducible refine aP ?_);(first|omega|simp[*])))) sX,rfl⟩
   have hh37:=hg37;try simp only[aL]at hh37
   iterate 5 refine AX ?_
   exact⟨rfl,zO rfl (by(refine Eq.symm ?_;first|((with_reducible refine aO.2 ?_);(first|omega|simp[*]))|((with_reducible refine aQ ?_);(first|omega|simp[*]))|((with_reducible refine aP ?_);(first|omega|simp[*])))) sX,rfl⟩
  refine .sub [(34,_),(0,_),(2,_),(3,_),(4,_),(5,_),(6,_)] sX ?_;refine .cx rfl (λhc34=>?_) (λhc34=>?_)
  ·iterate 17 refine AX ?_
   refine .mk ⟨by omega,rfl,rfl⟩ (zF rfl (zU rfl (by unfold afN;first|(rw[aN aB];first|rfl|(congr 1;dsimp only;omega))|(rw[aM aB,aN aB];first|rfl|(congr 1;dsimp only;omega))|(rw[aM aB,aM aB,aN aB];first|rfl|(congr 1;dsimp only;omega))|(rw[aM aB,aM aB,aM aB];rfl)) (zU rfl (by unfold afN;first|(rw[aN aB];first|rfl|(congr 1;dsimp only;omega))|(rw[aM aB,aN aB];first|rfl|(congr 1;dsimp only;omega))|(rw[aM aB,aM aB,aN aB];first|rfl|(congr 1;dsimp only;omega))|(rw[aM aB,aM aB,aM aB];rfl)) (zU rfl (by unfold afN;first|(rw[aN aB];first|rfl|(congr 1;dsimp only;omega))|(rw[aM aB,aN aB];first|rfl|(congr 1;dsimp only;omega))|(rw[aM aB,aM aB,aN aB];first|rfl|(congr 1;dsimp only;omega))|(rw[aM aB,aM aB,aM aB];rfl)) zW)))) (hRa _)
  iterate 3 refine AX ?_
  refine .mk ⟨by omega,rfl,rfl⟩ (zF rfl (zU rfl (by unfold afN;first|(rw[aN aB];first|rfl|(congr 1;dsimp only;omega))|(rw[aM aB,aN aB];first|rfl|(congr 1;dsimp only;omega))|(rw[aM aB,aM aB,aN aB];first|rfl|(congr 1;dsimp only;omega))|(rw[aM aB,aM aB,aM aB];rfl)) (zU rfl (by unfold afN;first|(rw[aN aB];first|rfl|(congr 1;dsimp only;omega))|(rw[aM aB,aN aB];first|rfl|(congr 1;dsimp only;omega))|(rw[aM aB,aM aB,aN aB];first|rfl|(congr 1;dsimp only;omega))|(rw[aM aB,aM aB,aM aB];rfl)) (zU rfl (by unfold afN;first|(rw[aN aB];first|rfl|(congr 1;dsimp only;omega))|(rw[aM aB,aN aB];first|rfl|(congr 1;dsimp only;omega))|(rw[aM aB,aM aB,aN aB];first|rfl|(congr 1;dsimp only;omega))|(rw[aM aB,aM aB,aM aB];rfl)) zW)))) (hRa _)
 rintro _ _ ⟨hc128,rfl,rfl⟩;have hrc:=hrc hc128;obtain⟨hcl1,hcl2⟩:=byX c;generalize(afN c).1=n at *;generalize(afN c).2.1=v at *;generalize(afN c).2.2=low at *;refine AX ?_;refine .seqTo 50 (.bool (decide (n=0∨s.length<n))) [0,4,5,6] ?_ ?_
 ·iterate 4 refine AX ?_
  refine zC (t:=45) rfl (λhg45=>?_) (λhg45=>?_)
  ·have hh45:=hg45;try simp only[aL]at hh45
   iterate 6 refine AX ?_
   exact⟨rfl,zO rfl (by(refine Eq.symm ?_;first|((with_reducible refine aO.2 ?_);(first|omega|simp[*]))|((with_reducible refine aQ ?_);(first|omega|simp[*]))|((with_reducible refine aP ?_);(first|omega|simp[*])))) sX,rfl⟩
  have hh45:=hg45;try simp only[aL]at hh45
  iterate 6 refine AX ?_
  exact⟨rfl,zO rfl (by(refine Eq.symm ?_;first|((with_reducible refine aO.2 ?_);(first|omega|simp[*]))|((with_reducible refine aQ ?_);(first|omega|simp[*]))|((with_reducible refine aP ?_);(first|omega|simp[*])))) sX,rfl⟩
 refine .sub [(50,_),(0,_),(4,_),(5,_),(6,_)] sX ?_;refine .cx rfl (λhc50=>?_) (λhc50=>?_)
 ·iterate 8 refine AX ?_
  refine⟨?_,rfl⟩;rw[hrc,aN hc50];rfl
 iterate 9 refine AX ?_
 refine .loopW (bsT s n v low H) (n-1) ⟨1,bB _,.inl rfl,bwY s,rfl,rfl,rfl⟩ sX (hRa _) ?_;rintro _ _ _ ⟨i,hi1,hin,hct,rfl,rfl,rfl⟩;iterate 8 refine AX ?_
 refine .cx rfl (λhc53=>?_) (λhc53=>?_)
 ·have hal:=bxE hcl2 hi1 aA hct;iterate 5 refine AX ?_
  refine .seqTo 65 (.bool (decide (¬(128≤(s.getD ((i:Nat):Int).toNat 0).toNat∧(s.getD ((i:Nat):Int).toNat 0).toNat<192)))) [0,4,5,6,7] ?_ ?_
  ·iterate 6 refine AX ?_
   refine zC (t:=60) rfl (λhg60=>?_) (λhg60=>?_)
   ·have hh60:=hg60;try simp only[aL]at hh60
    iterate 6 refine AX ?_
    exact⟨rfl,zO rfl (by(refine Eq.symm ?_;first|((with_reducible refine aO.2 ?_);(first|omega|simp[*]))|((with_reducible refine aQ ?_);(first|omega|simp[*]))|((with_reducible refine aP ?_);(first|omega|simp[*])))) sX,rfl⟩
   have hh60:=hg60;try simp only[aL]at hh60
   iterate 6 refine AX ?_
   exact⟨rfl,zO rfl (by(refine Eq.symm ?_;first|((with_reducible refine aO.2 ?_);(first|omega|simp[*]))|((with_reducible refine aQ ?_);(first|omega|simp[*]))|((with_reducible refine aP ?_);(first|omega|simp[*])))) sX,rfl⟩
  refine .sub [(65,_),(0,_),(4,_),(5,_),(6,_),(7,_)] sX ?_;refine .cx rfl (λhc65=>?_) (λhc65=>?_)
  ·iterate 13 refine AX ?_
   refine⟨?_,rfl⟩;rw[hrc,aM hc50];unfold anG;rw[aJ,aN (λh=>hc65 (h i hi1 aA))];rfl
  iterate 21 refine AX ?_
  have hbb:(s.getD ((i:Nat):Int).toNat 0).toNat<256:=(s.getD i 0).toNat_lt;have has:anM s v (i+1-1)=64*anM s v (i-1)+((s.getD ((i:Nat):Int).toNat 0).toNat-128):=bzN s v hi1;refine Round.mk ⟨i+1,by omega,.inr aA,(bbO s i hi1).2 ⟨hct,by show 128≤(s.getD ((i:Nat):Int).toNat 0).toNat∧(s.getD ((i:Nat):Int).toNat 0).toNat<192;omega⟩,rfl,rfl,rfl⟩ (zF rfl (zF rfl (zF rfl (zU rfl (by rw[has];congr 1;omega) (zF rfl zW))))) (hRa _) aA
 have hin2:i=n:=by omega
 subst hin2;generalize ha:anM s v (i-1)=a at *;iterate 6 refine AX ?_
 refine .seqTo 88 (.bool (decide (a<low∨1114111<a∨55296≤a∧a<57344))) [4] ?_ ?_
 ·iterate 5 refine AX ?_
  refine zC (t:=77) rfl (λhg77=>?_) (λhg77=>?_)
  ·have hh77:=hg77;try simp only[aL]at hh77
   iterate 12 refine AX ?_
   exact⟨rfl,zO rfl (by(refine Eq.symm ?_;first|((with_reducible refine aO.2 ?_);(first|omega|simp[*]))|((with_reducible refine aQ ?_);(first|omega|simp[*]))|((with_reducible refine aP ?_);(first|omega|simp[*])))) (zF rfl zW),rfl⟩
  have hh77:=hg77;try simp only[aL]at hh77
  iterate 4 refine AX ?_
  refine zC (t:=81) rfl (λhg81=>?_) (λhg81=>?_)
  ·have hh81:=hg81;try simp only[aL]at hh81
   iterate 8 refine AX ?_
   exact⟨rfl,zO rfl (by(refine Eq.symm ?_;first|((with_reducible refine aO.2 ?_);(first|omega|simp[*]))|((with_reducible refine aQ ?_);(first|omega|simp[*]))|((with_reducible refine aP ?_);(first|omega|simp[*])))) (zF rfl zW),rfl⟩
  have hh81:=hg81;try simp only[aL]at hh81
  iterate 3 refine AX ?_
  refine zC (t:=84) rfl (λhg84=>?_) (λhg84=>?_)
  ·have hh84:=hg84;try simp only[aL]at hh84
   iterate 5 refine AX ?_
   exact⟨rfl,zO rfl (by(refine Eq.symm ?_;first|((with_reducible refine aO.2 ?_);(first|omega|simp[*]))|((with_reducible refine aQ ?_);(first|omega|simp[*]))|((with_reducible refine aP ?_);(first|omega|simp[*])))) (zF rfl zW),rfl⟩
  have hh84:=hg84;try simp only[aL]at hh84
  iterate 5 refine AX ?_
  exact⟨rfl,zO rfl (by(refine Eq.symm ?_;first|((with_reducible refine aO.2 ?_);(first|omega|simp[*]))|((with_reducible refine aQ ?_);(first|omega|simp[*]))|((with_reducible refine aP ?_);(first|omega|simp[*])))) (zF rfl zW),rfl⟩
 refine .sub [(88,_),(4,_)] sX ?_;refine .cx rfl (λhc88=>?_) (λhc88=>?_)
 ·iterate 8 refine AX ?_
  refine⟨?_,rfl⟩;rw[hrc,aM hc50];unfold anG;rw[aJ,aM (λh=>h hct),ha,aN hc88];rfl
 iterate 10 refine AX ?_
 refine⟨?_,rfl⟩;rw[hrc,aM hc50];unfold anG;rw[aJ,aM (λh=>h hct),ha,aM hc88];rfl
theorem baK(x:ItN):Fn 52 [x.av] (.bool (afS x)):=by
 intro H;refine .of_body func52 rfl ntmps52 results52 rfl ?_;iterate 9 refine AX ?_
 refine .p rfl (zA U78 rfl Z3 (tm rfl)) ?_;iterate 10 refine AX ?_
 refine .cx rfl (λhc6=>?_) (λhc6=>?_)
 ·iterate 2 refine AX ?_
  refine .p rfl (zA U78 rfl Z9 (tm rfl)) ?_;refine AX ?_;refine .cl rfl call129 (evs1 rfl) (baB _ _) ?_;rw[bvC];iterate 3 refine AX ?_
  refine .seqTo 2 (.bool (decide (0<anF x.text∧anF x.text=x.text.length))) [1,5] ?_ ?_
  ·iterate 4 refine AX ?_
   refine zC (t:=13) rfl (λhg13=>?_) (λhg13=>?_)
   ·have hh13:=hg13;try simp only[aL]at hh13
    refine AX ?_;refine .gp rfl rfl rfl aB (zA U78 rfl Z9 (tm rfl)) ?_;iterate 6 refine AX ?_
    exact⟨rfl,zO rfl (by(refine Eq.symm ?_;first|((with_reducible refine aO.2 ?_);(first|omega|simp[*]))|((with_reducible refine aQ ?_);(first|omega|simp[*]))|((with_reducible refine aP ?_);(first|omega|simp[*])))) sX,rfl⟩
   have hh13:=hg13;try simp only[aL]at hh13
   iterate 8 refine AX ?_
   exact⟨rfl,zO rfl (by(refine Eq.symm ?_;first|((with_reducible refine aO.2 ?_);(first|omega|simp[*]))|((with_reducible refine aQ ?_);(first|omega|simp[*]))|((with_reducible refine aP ?_);(first|omega|simp[*])))) sX,rfl⟩
  refine .sub [(2,_),(1,_),(5,_)] sX ?_;iterate 4 refine AX ?_
  refine⟨?_,rfl⟩;unfold afS;rw[aN hc6];rfl
 iterate 6 refine AX ?_
 refine .cx rfl (λhc20=>?_) (λhc20=>?_)
 ·refine .seqTo 2 (.bool (decide (x.text=[48]∨x.text=[35]∨x.text=[63]))) [1,5] ?_ ?_
  ·refine AX ?_;refine .p rfl (zA U78 rfl Z9 (tm rfl)) ?_;iterate 3 refine AX ?_
   refine zC (t:=25) rfl (λhg25=>?_) (λhg25=>?_)
   ·have hh25:=hg25;try simp only[aL]at hh25
    iterate 11 refine AX ?_
    exact⟨rfl,zO rfl (by(refine Eq.symm ?_;first|((with_reducible refine aO.2 ?_);(first|omega|simp[*]))|((with_reducible refine aQ ?_);(first|omega|simp[*]))|((with_reducible refine aP ?_);(first|omega|simp[*])))) sX,rfl⟩
   have hh25:=hg25;try simp only[aL]at hh25
   refine .gp rfl rfl rfl aB (zA U78 rfl Z9 (tm rfl)) ?_;iterate 4 refine AX ?_
   refine zC (t:=30) rfl (λhg30=>?_) (λhg30=>?_)
   ·have hh30:=hg30;try simp only[aL]at hh30
    iterate 6 refine AX ?_
    exact⟨rfl,zO rfl (by(refine Eq.symm ?_;first|((with_reducible refine aO.2 ?_);(first|omega|simp[*]))|((with_reducible refine aQ ?_);(first|omega|simp[*]))|((with_reducible refine aP ?_);(first|omega|simp[*])))) sX,rfl⟩
   have hh30:=hg30;try simp only[aL]at hh30
   refine .gp rfl rfl rfl aB (zA U78 rfl Z9 (tm rfl)) ?_;iterate 5 refine AX ?_
   exact⟨rfl,zO rfl (by(refine Eq.symm ?_;first|((with_reducible refine aO.2 ?_);(first|omega|simp[*]))|((with_reducible refine aQ ?_);(first|omega|simp[*]))|((with_reducible refine aP ?_);(first|omega|simp[*])))) sX,rfl⟩
  refine .sub [(2,_),(1,_),(5,_)] sX ?_;iterate 4 refine AX ?_
  refine⟨?_,rfl⟩;unfold afS;rw[aM hc6,aN hc20];rfl
 iterate 6 refine AX ?_
 refine .cx rfl (λhc35=>?_) (λhc35=>?_)
 ·refine .seqTo 2 (.bool (decide (x.text=[43]∨x.text=[45]))) [1] ?_ ?_
  ·refine AX ?_;refine .p rfl (zA U78 rfl Z9 (tm rfl)) ?_;iterate 3 refine AX ?_
   refine zC (t:=40) rfl (λhg40=>?_) (λhg40=>?_)
   ·have hh40:=hg40;try simp only[aL]at hh40
    iterate 6 refine AX ?_
    exact⟨rfl,zO rfl (by(refine Eq.symm ?_;first|((with_reducible refine aO.2 ?_);(first|omega|simp[*]))|((with_reducible refine aQ ?_);(first|omega|simp[*]))|((with_reducible refine aP ?_);(first|omega|simp[*])))) (zF rfl zW),rfl⟩
   have hh40:=hg40;try simp only[aL]at hh40
   refine .gp rfl rfl rfl aB (zA U78 rfl Z9 (tm rfl)) ?_;iterate 5 refine AX ?_
   exact⟨rfl,zO rfl (by(refine Eq.symm ?_;first|((with_reducible refine aO.2 ?_);(first|omega|simp[*]))|((with_reducible refine aQ ?_);(first|omega|simp[*]))|((with_reducible refine aP ?_);(first|omega|simp[*])))) (zF rfl zW),rfl⟩
  refine .sub [(2,_),(1,_)] sX ?_;iterate 4 refine AX ?_
  refine⟨?_,rfl⟩;unfold afS;rw[aM hc6,aM hc20,aN hc35];rfl
 iterate 3 refine AX ?_
 refine .seqTo 2 (.bool (decide (1≤x.kind∧x.kind≤9∧x.text=[]))) [] ?_ ?_
 ·refine AX ?_;refine .p rfl (zA U78 rfl Z3 (tm rfl)) ?_;iterate 3 refine AX ?_
  refine zC (t:=48) rfl (λhg48=>?_) (λhg48=>?_)
  ·have hh48:=hg48;try simp only[aL]at hh48
   refine .gp rfl rfl rfl aB (zA U78 rfl Z3 (tm rfl)) ?_;iterate 4 refine AX ?_
   refine zC (t:=53) rfl (λhg53=>?_) (λhg53=>?_)
   ·have hh53:=hg53;try simp only[aL]at hh53
    refine .gp rfl rfl rfl aB (zA U78 rfl Z9 (tm rfl)) ?_;iterate 5 refine AX ?_
    exact⟨rfl,zO rfl (by(refine Eq.symm ?_;first|((with_reducible refine aO.2 ?_);(first|omega|simp[*]))|((with_reducible refine aQ ?_);(first|omega|simp[*]))|((with_reducible refine aP ?_);(first|omega|simp[*])))) zW,rfl⟩
   have hh53:=hg53;try simp only[aL]at hh53
   iterate 6 refine AX ?_
   exact⟨rfl,zO rfl (by(refine Eq.symm ?_;first|((with_reducible refine aO.2 ?_);(first|omega|simp[*]))|((with_reducible refine aQ ?_);(first|omega|simp[*]))|((with_reducible refine aP ?_);(first|omega|simp[*])))) zW,rfl⟩
  have hh48:=hg48;try simp only[aL]at hh48
  iterate 11 refine AX ?_
  exact⟨rfl,zO rfl (by(refine Eq.symm ?_;first|((with_reducible refine aO.2 ?_);(first|omega|simp[*]))|((with_reducible refine aQ ?_);(first|omega|simp[*]))|((with_reducible refine aP ?_);(first|omega|simp[*])))) zW,rfl⟩
 refine .sub [(2,_)] (zF rfl zW) ?_;iterate 2 refine AX ?_
 refine⟨?_,rfl⟩;unfold afS;rw[aM hc6,aM hc20,aM hc35];rfl
def auH(l:List ItN)(tl:Tail)(c:Int)(H:Heap):Nat→Env→Heap→Prop:=λk env H1=>∃i:Nat,i≤l.length∧env=[(0,itS l tl),(1,.int .i64 c),(5,.int .i64 (zV (l.take i) c:Int)),(6,.int .i64 (i:Int))]∧H=H1∧k=l.length-i
theorem yI(l:List ItN)(tl:Tail)(hl:l.length≤100000)(c:Int):Fn 53 [itS l tl,.int .i64 c] (.int .i64 (zV l c:Int)):=by
 intro H;have hcl:=λi=>aaH (l.take i) c;have htl:=λi=>aU (i:=i) (l:=l);refine .of_body func53 rfl ntmps53 results53 rfl ?_;iterate 17 refine AX ?_
 refine .loopW (auH l tl c H) (l.length) ⟨0,Nat.zero_le _,rfl,rfl,rfl⟩ sX (hRa _) ?_;rintro _ _ _ ⟨i,hi,rfl,rfl,rfl⟩;iterate 9 refine AX ?_
 refine .cx rfl (λhc10=>?_) (λhc10=>?_)
 ·have hci:=hcl i;rw[htl]at hci;iterate 9 refine AX ?_
  refine .p rfl (zA U78 rfl Z3 (tm rfl)) ?_;iterate 5 refine AX ?_
  refine .cx rfl (λhc19=>?_) (λhc19=>?_)
  ·iterate 13 refine AX ?_
   have hnx:=aoH (k:=c) (show i<l.length by omega);refine Round.mk ⟨i+1,by omega,rfl,rfl,rfl⟩ (zF rfl (zF rfl (zU rfl (by rw[hnx];first|(rw[aN (by exact hc19)];rfl)|(rw[aM (by exact hc19)];rfl)) (zF rfl zW)))) (hRa _) aA
  iterate 9 refine AX ?_
  have hnx:=aoH (k:=c) (show i<l.length by omega);refine Round.mk ⟨i+1,by omega,rfl,rfl,rfl⟩ (zF rfl (zF rfl (zU rfl (by rw[hnx];first|(rw[aN (by exact hc19)];rfl)|(rw[aM (by exact hc19)];rfl)) (zF rfl zW)))) (hRa _) aA
 iterate 13 refine AX ?_
 have hil:i=l.length:=by omega
 subst hil;rw[bY];exact⟨rfl,rfl⟩
def bxU(l:List ItN)(tl:Tail)(c:Int)(H:Heap):Nat→Env→Heap→Prop:=λk env H1=>∃i:Nat,i≤l.length∧(∀q x,q<i→l[q]?=some x→(λx:ItN=>decide (x.kind=c)) x=false)∧env=[(0,itS l tl),(1,.int .i64 c),(5,.int .i64 (i:Int))]∧H=H1∧k=l.length-i
theorem aeT(l:List ItN)(tl:Tail)(hl:l.length≤100000)(c:Int):Fn 130 [itS l tl,.int .i64 c] (.int .i64 (atK l c:Int)):=by
 intro H;refine .of_body func130 rfl ntmps130 results130 rfl ?_;iterate 12 refine AX ?_
 refine .loopW (bxU l tl c H) (l.length) ⟨0,Nat.zero_le _,λq x h=>by omega,rfl,rfl,rfl⟩ sX (hRa _) ?_;rintro _ _ _ ⟨i,hi,hno,rfl,rfl,rfl⟩;iterate 9 refine AX ?_
 refine .cx rfl (λhc9=>?_) (λhc9=>?_)
 ·iterate 9 refine AX ?_
  refine .p rfl (zA U78 rfl Z3 (tm rfl)) ?_;iterate 5 refine AX ?_
  refine .cx rfl (λhc18=>?_) (λhc18=>?_)
  ·iterate 13 refine AX ?_
   have hh:=aoF hno aA (aQ hc18);refine⟨?_,rfl⟩;unfold atK;rw[hh];rfl
  iterate 9 refine AX ?_
  refine Round.mk ⟨i+1,by omega,akS hno aA (aP hc18),rfl,rfl,rfl⟩ sX (hRa _) aA
 iterate 14 refine AX ?_
 have hh:=akR hno aA;refine⟨?_,rfl⟩;unfold atK;rw[hh];rfl
theorem alR(l:List ItN)(tl:Tail)(hl:l.length≤100000):Fn 118 [itS l tl] (.int .i64 (alH l:Int)):=by
 intro H;refine .of_body func118 rfl ntmps118 results118 rfl ?_;iterate 8 refine AX ?_
 refine .cl rfl C130 (.cons (tm rfl) (.cons zJ .nil)) (aeT _ _ aB _ _) ?_;refine AX ?_;refine .cl rfl C130 (.cons (tm rfl) (.cons zJ .nil)) (aeT _ _ aB _ _) ?_;refine AX ?_;refine .cl rfl C130 (.cons (tm rfl) (.cons zJ .nil)) (aeT _ _ aB _ _) ?_;iterate 7 refine AX ?_
 refine⟨?_,rfl⟩;unfold alH;show AV.int .i64 _=AV.int .i64 _;congr 1;unfold asW;repeat' split
 all_goals omega
end Go.Proofs.YteedncdcbgplfaaGreatDoor
