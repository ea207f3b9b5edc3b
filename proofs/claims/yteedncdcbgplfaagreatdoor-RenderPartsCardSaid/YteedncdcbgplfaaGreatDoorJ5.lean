import Derived.Test.YteedncdcbgplfaaGreatDoorJ4
set_option maxHeartbeats 1000000
namespace Go.Proofs.YteedncdcbgplfaaGreatDoor
open Go.Proofs.Tryz
open Go Go.RowKit
set_option maxRecDepth 100000
theorem bjH{l:List ItN}{e i:Nat}(h:i<e)(he:e≤l.length):(l.take e).getD i ⟨0,[]⟩=l[i]'(dF h he):=by
 rw[aS,dZ h,aV (dF h he)];rfl
theorem bnH(l:List ItN):alH l≤l.length∧alH l≤atK l 5∧atK l 5≤l.length:=by
 have h3:=atI l 3;have h5:=atI l 5;unfold alH;omega
theorem brS(n i:Nat)(k:Int):azJ n i k=decide (k=0∨(k=6∧i<3∧1<n)∨(i=3∧k≠1∧k≠6)):=by
 unfold azJ;split
 ·exact(aQ aA).symm
 split
 ·exact(aP aA).symm
 split
 ·exact aO.2 aA
 exact aO.2 aA
def btN(l:List ItN)(tl:Tail)(e:Nat)(H:Heap):Nat→Env→Heap→Prop:=λk env H1=>∃i:Nat,i≤e∧(∀q,1≤q→q<i+1→¬(((l.take e).getD (q-1) ⟨0,[]⟩).kind=2∧((l.take e).getD q ⟨0,[]⟩).kind=2))∧env=[(0,itS l tl),(3,.int .i64 (e:Int)),(4,.int .i64 (i:Int))]∧H=H1∧k=e-i
theorem bfS(l:List ItN)(tl:Tail)(hl:l.length≤100000):Fn 131 [itS l tl] (.bool (abF (l.take (alH l)))):=by
 intro H;obtain⟨hel,_,_⟩:=bnH l;refine .of_body func131 rfl ntmps131 results131 rfl ?_;iterate 8 refine AX ?_
 refine .cl rfl call118 (evs1 rfl) (alR l tl hl _) ?_;generalize alH l=e at *;have htl:(l.take e).length=e:=by rw[aU];omega
 iterate 10 refine AX ?_
 refine .loopW (btN l tl e H) (e) ⟨0,Nat.zero_le _,λq h1 h2=>by omega,rfl,rfl,rfl⟩ sX (hRa _) ?_;rintro _ _ _ ⟨i,hie,hno,rfl,rfl,rfl⟩;iterate 9 refine AX ?_
 refine .cx rfl (λhc10=>?_) (λhc10=>?_)
 ·have ha:(l.take e).getD i ⟨0,[]⟩=l[((i:Nat):Int).toNat]:=bjH aA hel;have hb:(l.take e).getD (i+1) ⟨0,[]⟩=l[(((i:Nat):Int)+1).toNat]'aA:=bjH aA hel;iterate 4 refine AX ?_
  refine .seqTo 27 (.bool (decide (((l.take e).getD i ⟨0,[]⟩).kind=2∧((l.take e).getD (i+1) ⟨0,[]⟩).kind=2))) [0,3,4] ?_ ?_
  ·iterate 4 refine AX ?_
   refine .p rfl (zA U78 rfl Z3 (tm rfl)) ?_;iterate 3 refine AX ?_
   refine zC (t:=19) rfl (λhg19=>?_) (λhg19=>?_)
   ·have hh19:=hg19;try simp only[aL]at hh19
    iterate 4 refine AX ?_
    refine .gp rfl rfl rfl aB (zA U78 rfl Z3 (tm rfl)) ?_;iterate 4 refine AX ?_
    exact⟨rfl,zO rfl (by(refine Eq.symm ?_;rw[ha,hb];first|exact aO.2 ⟨λh=>h.2,λh=>⟨hh19,h⟩⟩|exact aP (λh=>hh19 h.1))) sX,rfl⟩
   have hh19:=hg19;try simp only[aL]at hh19
   iterate 9 refine AX ?_
   exact⟨rfl,zO rfl (by(refine Eq.symm ?_;rw[ha,hb];first|exact aO.2 ⟨λh=>h.2,λh=>⟨hh19,h⟩⟩|exact aP (λh=>hh19 h.1))) sX,rfl⟩
  refine .sub [(27,_),(0,_),(3,_),(4,_)] sX ?_;refine .cx rfl (λhc27=>?_) (λhc27=>?_)
  ·iterate 12 refine AX ?_
   refine⟨?_,rfl⟩;rw[atG (i:=i+1) aA aA hc27];rfl
  iterate 9 refine AX ?_
  refine Round.mk ⟨i+1,by omega,λq h1 h2=>(bV q (i+1)).elim (hno q h1) (λh=>by rw[show q=i+1 by omega];exact hc27),rfl,rfl,rfl⟩ sX (hRa _) aA
 iterate 12 refine AX ?_
 refine⟨?_,rfl⟩;rw[atF hno aA];rfl
theorem baM(l:List ItN)(tl:Tail)(hl:l.length≤100000):Fn 54 [itS l tl] (.int .i64 (bgW l)):=by
 intro H;have hn2:=aaH l 2;have hn3:=aaH l 3;have hn4:=aaH l 4;have hn5:=aaH l 5;have hn6:=aaH l 6;have hn7:=aaH l 7;have hn8:=aaH l 8;have hn9:=aaH l 9;have hk:=atI l 6;have hla:∀h:(((atK l 6:Nat):Int)-1).toNat<l.length,l[(((atK l 6:Nat):Int)-1).toNat]=l.getD (atK l 6-1) ⟨0,[]⟩:=λh=>by
  rw[amA (show atK l 6-1<l.length by omega)];congr 1;omega
 refine .of_body func54 rfl ntmps54 results54 rfl ?_;iterate 8 refine AX ?_
 refine .cl rfl C130 (.cons (tm rfl) (.cons zJ .nil)) (aeT _ _ aB _ _) ?_;iterate 4 refine AX ?_
 refine .seqTo 33 (.bool (decide (zV l 6>1∨atK l 6=0∨(l.getD (atK l 6-1) ⟨0,[]⟩).kind≠2∨zV l 3+zV l 4+zV l 5>0))) [0,2,3] ?_ ?_
 ·iterate 2 refine AX ?_
  refine .cl rfl C53 (.cons (tm rfl) (.cons zJ .nil)) (yI _ _ aB _ _) ?_;iterate 2 refine AX ?_
  refine zC (t:=10) rfl (λhg10=>?_) (λhg10=>?_)
  ·have hh10:=hg10;try simp only[aL]at hh10
   iterate 24 refine AX ?_
   exact⟨rfl,zO rfl (by(refine Eq.symm ?_;(try rw[hla]at hh23);first|((with_reducible refine aO.2 ?_);(first|omega|simp[*]))|((with_reducible refine aQ ?_);(first|omega|simp[*]))|((with_reducible refine aP ?_);(first|omega|simp[*])))) sX,rfl⟩
  have hh10:=hg10;try simp only[aL]at hh10
  iterate 4 refine AX ?_
  refine zC (t:=14) rfl (λhg14=>?_) (λhg14=>?_)
  ·have hh14:=hg14;try simp only[aL]at hh14
   iterate 20 refine AX ?_
   exact⟨rfl,zO rfl (by(refine Eq.symm ?_;(try rw[hla]at hh23);first|((with_reducible refine aO.2 ?_);(first|omega|simp[*]))|((with_reducible refine aQ ?_);(first|omega|simp[*]))|((with_reducible refine aP ?_);(first|omega|simp[*])))) sX,rfl⟩
  have hh14:=hg14;try simp only[aL]at hh14
  iterate 4 refine AX ?_
  refine .gp rfl rfl rfl aB (zA U78 rfl Z3 (tm rfl)) ?_;iterate 4 refine AX ?_
  refine zC (t:=23) rfl (λhg23=>?_) (λhg23=>?_)
  ·have hh23:=hg23;try simp only[aL]at hh23
   iterate 11 refine AX ?_
   exact⟨rfl,zO rfl (by(refine Eq.symm ?_;(try rw[hla]at hh23);first|((with_reducible refine aO.2 ?_);(first|omega|simp[*]))|((with_reducible refine aQ ?_);(first|omega|simp[*]))|((with_reducible refine aP ?_);(first|omega|simp[*])))) sX,rfl⟩
  have hh23:=hg23;try simp only[aL]at hh23
  refine AX ?_;refine .gs rfl rfl rfl aB (zD C53 (.cons (tm rfl) (.cons zJ .nil)) (yI _ _ aB _ _)) ?_;rintro _ _ ⟨rfl,hH⟩;obtain rfl:=hH.symm;refine AX ?_;refine .gs rfl rfl rfl aB (zD C53 (.cons (tm rfl) (.cons zJ .nil)) (yI _ _ aB _ _)) ?_;rintro _ _ ⟨rfl,hH⟩;obtain rfl:=hH.symm;iterate 2 refine AX ?_
  refine .gs rfl rfl rfl aB (zD C53 (.cons (tm rfl) (.cons zJ .nil)) (yI _ _ aB _ _)) ?_;rintro _ _ ⟨rfl,hH⟩;obtain rfl:=hH.symm;iterate 4 refine AX ?_
  exact⟨rfl,zO rfl (by(refine Eq.symm ?_;(try rw[hla]at hh23);first|((with_reducible refine aO.2 ?_);(first|omega|simp[*]))|((with_reducible refine aQ ?_);(first|omega|simp[*]))|((with_reducible refine aP ?_);(first|omega|simp[*])))) sX,rfl⟩
 refine .sub [(33,_),(0,_),(2,_),(3,_)] sX ?_;refine .cx rfl (λhc33=>?_) (λhc33=>?_)
 ·iterate 8 refine AX ?_
  refine⟨?_,rfl⟩;unfold bgW;rw[aN hc33];rfl
 iterate 7 refine AX ?_
 refine .cl rfl C53 (.cons (tm rfl) (.cons zJ .nil)) (yI (l.drop (atK l 6)) _ (by(rw[bC];omega)) _ _) ?_;iterate 4 refine AX ?_
 refine .seqTo 50 (.bool (decide (zV (l.drop (atK l 6)) 2<1∨zV (l.drop (atK l 6)) 2>4∨zV (l.take (atK l 6)) 2>30))) [2] ?_ ?_
 ·iterate 4 refine AX ?_
  refine zC (t:=40) rfl (λhg40=>?_) (λhg40=>?_)
  ·have hh40:=hg40;try simp only[aL]at hh40
   iterate 11 refine AX ?_
   exact⟨rfl,zO rfl (by(refine Eq.symm ?_;(try rw[hla]at hh23);first|((with_reducible refine aO.2 ?_);(first|omega|simp[*]))|((with_reducible refine aQ ?_);(first|omega|simp[*]))|((with_reducible refine aP ?_);(first|omega|simp[*])))) (zF rfl zW),rfl⟩
  have hh40:=hg40;try simp only[aL]at hh40
  iterate 4 refine AX ?_
  refine zC (t:=44) rfl (λhg44=>?_) (λhg44=>?_)
  ·have hh44:=hg44;try simp only[aL]at hh44
   iterate 7 refine AX ?_
   exact⟨rfl,zO rfl (by(refine Eq.symm ?_;(try rw[hla]at hh23);first|((with_reducible refine aO.2 ?_);(first|omega|simp[*]))|((with_reducible refine aQ ?_);(first|omega|simp[*]))|((with_reducible refine aP ?_);(first|omega|simp[*])))) (zF rfl zW),rfl⟩
  have hh44:=hg44;try simp only[aL]at hh44
  iterate 3 refine AX ?_
  refine .gs rfl rfl rfl aB (zD C53 (.cons (tm rfl) (.cons zJ .nil)) (yI (l.take (atK l 6)) _ (by(rw[aU];omega)) _ _)) ?_;rintro _ _ ⟨rfl,hH⟩;obtain rfl:=hH.symm;iterate 3 refine AX ?_
  exact⟨rfl,zO rfl (by(refine Eq.symm ?_;(try rw[hla]at hh23);first|((with_reducible refine aO.2 ?_);(first|omega|simp[*]))|((with_reducible refine aQ ?_);(first|omega|simp[*]))|((with_reducible refine aP ?_);(first|omega|simp[*])))) (zF rfl zW),rfl⟩
 refine .sub [(50,_),(2,_)] sX ?_;refine .cx rfl (λhc50=>?_) (λhc50=>?_)
 ·iterate 8 refine AX ?_
  refine⟨?_,rfl⟩;unfold bgW;rw[aM hc33,aN hc50];rfl
 iterate 9 refine AX ?_
 refine⟨?_,rfl⟩;unfold bgW;rw[aM hc33,aM hc50];rfl
theorem awX(l:List ItN)(gr:Bool)(sc:Int)(tl:Tail)(hl:l.length≤100000):Fn 55 [.agg [itS l tl,.bool gr,.int .i64 sc]] (.int .i64 (axW ⟨l,gr,sc⟩)):=by
 intro H;have hn2:=aaH l 2;have hn3:=aaH l 3;have hn4:=aaH l 4;have hn5:=aaH l 5;have hn6:=aaH l 6;have hn7:=aaH l 7;have hn8:=aaH l 8;have hn9:=aaH l 9;obtain⟨he1,he2,he3⟩:=bnH l;refine .of_body func55 rfl ntmps55 results55 rfl ?_;iterate 8 refine AX ?_
 refine .p rfl (zA U48 rfl Z46 (tm rfl)) ?_;iterate 7 refine AX ?_
 refine .cl rfl call118 (evs1 rfl) (alR _ _ aB _) ?_;iterate 6 refine AX ?_
 refine .cl rfl C130 (.cons (tm rfl) (.cons zJ .nil)) (aeT _ _ aB _ _) ?_;iterate 8 refine AX ?_
 refine .cl rfl C53 (.cons (tm rfl) (.cons zJ .nil)) (yI (l.take (alH l)) _ (by(rw[aU];omega)) _ _) ?_;iterate 4 refine AX ?_
 refine .seqTo 48 (.bool (decide (zV l 2=0∨zV l 3>1∨zV l 4>1∨zV l 5>1∨zV (l.take (alH l)) 2>30∨zV ((l.take (atK l 5)).drop (alH l)) 2>30))) [1,2,3,5,6] ?_ ?_
 ·iterate 2 refine AX ?_
  refine .cl rfl C53 (.cons (tm rfl) (.cons zJ .nil)) (yI _ _ aB _ _) ?_;iterate 2 refine AX ?_
  refine zC (t:=22) rfl (λhg22=>?_) (λhg22=>?_)
  ·have hh22:=hg22;try simp only[aL]at hh22
   iterate 27 refine AX ?_
   exact⟨rfl,zO rfl (by(refine Eq.symm ?_;first|exact aQ (.inr (.inr (.inr (.inr (.inl hh81)))))|exact aO.2 ⟨λh=>by rcases h with h|h|h|h|h|h<;>first|exact h|omega|(rw[hh81]at h;cases h),λh=>.inr (.inr (.inr (.inr (.inr h))))⟩|exact aQ (.inl ⟨hh90,hh94⟩)|exact aO.2 ⟨by rintro(⟨h1,h2⟩|h|h|⟨h1,h2⟩)<;>first|omega|simp_all,λh=>.inr (.inr (.inr ⟨by omega,by omega⟩))⟩|exact aP (by rintro(⟨h1,h2⟩|h|h|⟨h1,h2⟩)<;>first|omega|simp_all)|((with_reducible refine aO.2 ?_);(first|omega|simp[*]))|((with_reducible refine aQ ?_);(first|omega|simp[*]))|((with_reducible refine aP ?_);(first|omega|simp[*])))) sX,rfl⟩
  have hh22:=hg22;try simp only[aL]at hh22
  refine AX ?_;refine .gs rfl rfl rfl aB (zD C53 (.cons (tm rfl) (.cons zJ .nil)) (yI _ _ aB _ _)) ?_;rintro _ _ ⟨rfl,hH⟩;obtain rfl:=hH.symm;iterate 3 refine AX ?_
  refine zC (t:=27) rfl (λhg27=>?_) (λhg27=>?_)
  ·have hh27:=hg27;try simp only[aL]at hh27
   iterate 22 refine AX ?_
   exact⟨rfl,zO rfl (by(refine Eq.symm ?_;first|exact aQ (.inr (.inr (.inr (.inr (.inl hh81)))))|exact aO.2 ⟨λh=>by rcases h with h|h|h|h|h|h<;>first|exact h|omega|(rw[hh81]at h;cases h),λh=>.inr (.inr (.inr (.inr (.inr h))))⟩|exact aQ (.inl ⟨hh90,hh94⟩)|exact aO.2 ⟨by rintro(⟨h1,h2⟩|h|h|⟨h1,h2⟩)<;>first|omega|simp_all,λh=>.inr (.inr (.inr ⟨by omega,by omega⟩))⟩|exact aP (by rintro(⟨h1,h2⟩|h|h|⟨h1,h2⟩)<;>first|omega|simp_all)|((with_reducible refine aO.2 ?_);(first|omega|simp[*]))|((with_reducible refine aQ ?_);(first|omega|simp[*]))|((with_reducible refine aP ?_);(first|omega|simp[*])))) sX,rfl⟩
  have hh27:=hg27;try simp only[aL]at hh27
  refine AX ?_;refine .gs rfl rfl rfl aB (zD C53 (.cons (tm rfl) (.cons zJ .nil)) (yI _ _ aB _ _)) ?_;rintro _ _ ⟨rfl,hH⟩;obtain rfl:=hH.symm;iterate 3 refine AX ?_
  refine zC (t:=32) rfl (λhg32=>?_) (λhg32=>?_)
  ·have hh32:=hg32;try simp only[aL]at hh32
   iterate 17 refine AX ?_
   exact⟨rfl,zO rfl (by(refine Eq.symm ?_;first|exact aQ (.inr (.inr (.inr (.inr (.inl hh81)))))|exact aO.2 ⟨λh=>by rcases h with h|h|h|h|h|h<;>first|exact h|omega|(rw[hh81]at h;cases h),λh=>.inr (.inr (.inr (.inr (.inr h))))⟩|exact aQ (.inl ⟨hh90,hh94⟩)|exact aO.2 ⟨by rintro(⟨h1,h2⟩|h|h|⟨h1,h2⟩)<;>first|omega|simp_all,λh=>.inr (.inr (.inr ⟨by omega,by omega⟩))⟩|exact aP (by rintro(⟨h1,h2⟩|h|h|⟨h1,h2⟩)<;>first|omega|simp_all)|((with_reducible refine aO.2 ?_);(first|omega|simp[*]))|((with_reducible refine aQ ?_);(first|omega|simp[*]))|((with_reducible refine aP ?_);(first|omega|simp[*])))) sX,rfl⟩
  have hh32:=hg32;try simp only[aL]at hh32
  refine AX ?_;refine .gs rfl rfl rfl aB (zD C53 (.cons (tm rfl) (.cons zJ .nil)) (yI _ _ aB _ _)) ?_;rintro _ _ ⟨rfl,hH⟩;obtain rfl:=hH.symm;iterate 3 refine AX ?_
  refine zC (t:=37) rfl (λhg37=>?_) (λhg37=>?_)
  ·have hh37:=hg37;try simp only[aL]at hh37
   iterate 12 refine AX ?_
   exact⟨rfl,zO rfl (by(refine Eq.symm ?_;first|exact aQ (.inr (.inr (.inr (.inr (.inl hh81)))))|exact aO.2 ⟨λh=>by rcases h with h|h|h|h|h|h<;>first|exact h|omega|(rw[hh81]at h;cases h),λh=>.inr (.inr (.inr (.inr (.inr h))))⟩|exact aQ (.inl ⟨hh90,hh94⟩)|exact aO.2 ⟨by rintro(⟨h1,h2⟩|h|h|⟨h1,h2⟩)<;>first|omega|simp_all,λh=>.inr (.inr (.inr ⟨by omega,by omega⟩))⟩|exact aP (by rintro(⟨h1,h2⟩|h|h|⟨h1,h2⟩)<;>first|omega|simp_all)|((with_reducible refine aO.2 ?_);(first|omega|simp[*]))|((with_reducible refine aQ ?_);(first|omega|simp[*]))|((with_reducible refine aP ?_);(first|omega|simp[*])))) sX,rfl⟩
  have hh37:=hg37;try simp only[aL]at hh37
  iterate 4 refine AX ?_
  refine zC (t:=41) rfl (λhg41=>?_) (λhg41=>?_)
  ·have hh41:=hg41;try simp only[aL]at hh41
   iterate 8 refine AX ?_
   exact⟨rfl,zO rfl (by(refine Eq.symm ?_;first|exact aQ (.inr (.inr (.inr (.inr (.inl hh81)))))|exact aO.2 ⟨λh=>by rcases h with h|h|h|h|h|h<;>first|exact h|omega|(rw[hh81]at h;cases h),λh=>.inr (.inr (.inr (.inr (.inr h))))⟩|exact aQ (.inl ⟨hh90,hh94⟩)|exact aO.2 ⟨by rintro(⟨h1,h2⟩|h|h|⟨h1,h2⟩)<;>first|omega|simp_all,λh=>.inr (.inr (.inr ⟨by omega,by omega⟩))⟩|exact aP (by rintro(⟨h1,h2⟩|h|h|⟨h1,h2⟩)<;>first|omega|simp_all)|((with_reducible refine aO.2 ?_);(first|omega|simp[*]))|((with_reducible refine aQ ?_);(first|omega|simp[*]))|((with_reducible refine aP ?_);(first|omega|simp[*])))) sX,rfl⟩
  have hh41:=hg41;try simp only[aL]at hh41
  iterate 3 refine AX ?_
  refine .gp rfl rfl rfl aB (auP U46 Z78 (tm rfl) (tm rfl) (tm rfl) aA aA aA) (.gs rfl rfl rfl aB (zD C53 (.cons (tm rfl) (.cons zJ .nil)) (yI ((l.take (atK l 5)).drop (alH l)) _ (by(rw[bC,aU];omega)) _ _)) ?_);rintro _ _ ⟨rfl,hH⟩;obtain rfl:=hH.symm;iterate 3 refine AX ?_
  exact⟨rfl,zO rfl (by(refine Eq.symm ?_;first|exact aQ (.inr (.inr (.inr (.inr (.inl hh81)))))|exact aO.2 ⟨λh=>by rcases h with h|h|h|h|h|h<;>first|exact h|omega|(rw[hh81]at h;cases h),λh=>.inr (.inr (.inr (.inr (.inr h))))⟩|exact aQ (.inl ⟨hh90,hh94⟩)|exact aO.2 ⟨by rintro(⟨h1,h2⟩|h|h|⟨h1,h2⟩)<;>first|omega|simp_all,λh=>.inr (.inr (.inr ⟨by omega,by omega⟩))⟩|exact aP (by rintro(⟨h1,h2⟩|h|h|⟨h1,h2⟩)<;>first|omega|simp_all)|((with_reducible refine aO.2 ?_);(first|omega|simp[*]))|((with_reducible refine aQ ?_);(first|omega|simp[*]))|((with_reducible refine aP ?_);(first|omega|simp[*])))) sX,rfl⟩
 refine .sub [(48,_),(1,_),(2,_),(3,_),(5,_),(6,_)] sX ?_;refine .cx rfl (λhc48=>?_) (λhc48=>?_)
 ·iterate 8 refine AX ?_
  refine⟨?_,rfl⟩;unfold axW;rw[aN hc48];rfl
 iterate 11 refine AX ?_
 refine .cx rfl (λhc52=>?_) (λhc52=>?_)
 ·iterate 5 refine AX ?_
  refine .cl rfl C53 (.cons (tm rfl) (.cons zJ .nil)) (yI (l.drop (atK l 5)) _ (by(rw[bC];omega)) _ _) ?_;iterate 4 refine AX ?_
  refine .seqTo 85 (.bool (decide (zV (l.take (atK l 5)) 2=0∨zV (l.drop (atK l 5)) 2<1∨zV (l.drop (atK l 5)) 2>4∨zV (l.drop (atK l 5)) 3>0∨gr=true∨sc≠0))) [1,2,3,6] ?_ ?_
  ·iterate 4 refine AX ?_
   refine .cl rfl C53 (.cons (tm rfl) (.cons zJ .nil)) (yI (l.take (atK l 5)) _ (by(rw[aU];omega)) _ _) ?_;iterate 2 refine AX ?_
   refine zC (t:=62) rfl (λhg62=>?_) (λhg62=>?_)
   ·have hh62:=hg62;try simp only[aL]at hh62
    iterate 24 refine AX ?_
    exact⟨rfl,zO rfl (by(refine Eq.symm ?_;first|exact aQ (.inr (.inr (.inr (.inr (.inl hh81)))))|exact aO.2 ⟨λh=>by rcases h with h|h|h|h|h|h<;>first|exact h|omega|(rw[hh81]at h;cases h),λh=>.inr (.inr (.inr (.inr (.inr h))))⟩|exact aQ (.inl ⟨hh90,hh94⟩)|exact aO.2 ⟨by rintro(⟨h1,h2⟩|h|h|⟨h1,h2⟩)<;>first|omega|simp_all,λh=>.inr (.inr (.inr ⟨by omega,by omega⟩))⟩|exact aP (by rintro(⟨h1,h2⟩|h|h|⟨h1,h2⟩)<;>first|omega|simp_all)|((with_reducible refine aO.2 ?_);(first|omega|simp[*]))|((with_reducible refine aQ ?_);(first|omega|simp[*]))|((with_reducible refine aP ?_);(first|omega|simp[*])))) sX,rfl⟩
   have hh62:=hg62;try simp only[aL]at hh62
   iterate 4 refine AX ?_
   refine zC (t:=66) rfl (λhg66=>?_) (λhg66=>?_)
   ·have hh66:=hg66;try simp only[aL]at hh66
    iterate 20 refine AX ?_
    exact⟨rfl,zO rfl (by(refine Eq.symm ?_;first|exact aQ (.inr (.inr (.inr (.inr (.inl hh81)))))|exact aO.2 ⟨λh=>by rcases h with h|h|h|h|h|h<;>first|exact h|omega|(rw[hh81]at h;cases h),λh=>.inr (.inr (.inr (.inr (.inr h))))⟩|exact aQ (.inl ⟨hh90,hh94⟩)|exact aO.2 ⟨by rintro(⟨h1,h2⟩|h|h|⟨h1,h2⟩)<;>first|omega|simp_all,λh=>.inr (.inr (.inr ⟨by omega,by omega⟩))⟩|exact aP (by rintro(⟨h1,h2⟩|h|h|⟨h1,h2⟩)<;>first|omega|simp_all)|((with_reducible refine aO.2 ?_);(first|omega|simp[*]))|((with_reducible refine aQ ?_);(first|omega|simp[*]))|((with_reducible refine aP ?_);(first|omega|simp[*])))) sX,rfl⟩
   have hh66:=hg66;try simp only[aL]at hh66
   iterate 4 refine AX ?_
   refine zC (t:=70) rfl (λhg70=>?_) (λhg70=>?_)
   ·have hh70:=hg70;try simp only[aL]at hh70
    iterate 16 refine AX ?_
    exact⟨rfl,zO rfl (by(refine Eq.symm ?_;first|exact aQ (.inr (.inr (.inr (.inr (.inl hh81)))))|exact aO.2 ⟨λh=>by rcases h with h|h|h|h|h|h<;>first|exact h|omega|(rw[hh81]at h;cases h),λh=>.inr (.inr (.inr (.inr (.inr h))))⟩|exact aQ (.inl ⟨hh90,hh94⟩)|exact aO.2 ⟨by rintro(⟨h1,h2⟩|h|h|⟨h1,h2⟩)<;>first|omega|simp_all,λh=>.inr (.inr (.inr ⟨by omega,by omega⟩))⟩|exact aP (by rintro(⟨h1,h2⟩|h|h|⟨h1,h2⟩)<;>first|omega|simp_all)|((with_reducible refine aO.2 ?_);(first|omega|simp[*]))|((with_reducible refine aQ ?_);(first|omega|simp[*]))|((with_reducible refine aP ?_);(first|omega|simp[*])))) sX,rfl⟩
   have hh70:=hg70;try simp only[aL]at hh70
   iterate 3 refine AX ?_
   refine .gs rfl rfl rfl aB (zD C53 (.cons (tm rfl) (.cons zJ .nil)) (yI (l.drop (atK l 5)) _ (by(rw[bC];omega)) _ _)) ?_;rintro _ _ ⟨rfl,hH⟩;obtain rfl:=hH.symm;iterate 3 refine AX ?_
   refine zC (t:=77) rfl (λhg77=>?_) (λhg77=>?_)
   ·have hh77:=hg77;try simp only[aL]at hh77
    iterate 9 refine AX ?_
    exact⟨rfl,zO rfl (by(refine Eq.symm ?_;first|exact aQ (.inr (.inr (.inr (.inr (.inl hh81)))))|exact aO.2 ⟨λh=>by rcases h with h|h|h|h|h|h<;>first|exact h|omega|(rw[hh81]at h;cases h),λh=>.inr (.inr (.inr (.inr (.inr h))))⟩|exact aQ (.inl ⟨hh90,hh94⟩)|exact aO.2 ⟨by rintro(⟨h1,h2⟩|h|h|⟨h1,h2⟩)<;>first|omega|simp_all,λh=>.inr (.inr (.inr ⟨by omega,by omega⟩))⟩|exact aP (by rintro(⟨h1,h2⟩|h|h|⟨h1,h2⟩)<;>first|omega|simp_all)|((with_reducible refine aO.2 ?_);(first|omega|simp[*]))|((with_reducible refine aQ ?_);(first|omega|simp[*]))|((with_reducible refine aP ?_);(first|omega|simp[*])))) sX,rfl⟩
   have hh77:=hg77;try simp only[aL]at hh77
   refine .gp rfl rfl rfl aB (zA U48 rfl Z4 (tm rfl)) ?_;iterate 3 refine AX ?_
   refine zC (t:=81) rfl (λhg81=>?_) (λhg81=>?_)
   ·have hh81:=hg81;try simp only[aL]at hh81
    iterate 5 refine AX ?_
    exact⟨rfl,zO rfl (by(refine Eq.symm ?_;first|exact aQ (.inr (.inr (.inr (.inr (.inl hh81)))))|exact aO.2 ⟨λh=>by rcases h with h|h|h|h|h|h<;>first|exact h|omega|(rw[hh81]at h;cases h),λh=>.inr (.inr (.inr (.inr (.inr h))))⟩|exact aQ (.inl ⟨hh90,hh94⟩)|exact aO.2 ⟨by rintro(⟨h1,h2⟩|h|h|⟨h1,h2⟩)<;>first|omega|simp_all,λh=>.inr (.inr (.inr ⟨by omega,by omega⟩))⟩|exact aP (by rintro(⟨h1,h2⟩|h|h|⟨h1,h2⟩)<;>first|omega|simp_all)|((with_reducible refine aO.2 ?_);(first|omega|simp[*]))|((with_reducible refine aQ ?_);(first|omega|simp[*]))|((with_reducible refine aP ?_);(first|omega|simp[*])))) sX,rfl⟩
   have hh81:=hg81;try simp only[aL]at hh81
   refine .gp rfl rfl rfl aB (zA U48 rfl Z3 (tm rfl)) ?_;iterate 4 refine AX ?_
   exact⟨rfl,zO rfl (by(refine Eq.symm ?_;first|exact aQ (.inr (.inr (.inr (.inr (.inl hh81)))))|exact aO.2 ⟨λh=>by rcases h with h|h|h|h|h|h<;>first|exact h|omega|(rw[hh81]at h;cases h),λh=>.inr (.inr (.inr (.inr (.inr h))))⟩|exact aQ (.inl ⟨hh90,hh94⟩)|exact aO.2 ⟨by rintro(⟨h1,h2⟩|h|h|⟨h1,h2⟩)<;>first|omega|simp_all,λh=>.inr (.inr (.inr ⟨by omega,by omega⟩))⟩|exact aP (by rintro(⟨h1,h2⟩|h|h|⟨h1,h2⟩)<;>first|omega|simp_all)|((with_reducible refine aO.2 ?_);(first|omega|simp[*]))|((with_reducible refine aQ ?_);(first|omega|simp[*]))|((with_reducible refine aP ?_);(first|omega|simp[*])))) sX,rfl⟩
  refine .sub [(85,_),(1,_),(2,_),(3,_),(6,_)] sX ?_;refine .cx rfl (λhc85=>?_) (λhc85=>?_)
  ·iterate 9 refine AX ?_
   refine⟨?_,rfl⟩;unfold axW;rw[aM hc48,aN (show atK l 5<l.length by omega),aN hc85];rfl
  iterate 10 refine AX ?_
  refine⟨?_,rfl⟩;unfold axW;rw[aM hc48,aN (show atK l 5<l.length by omega),aM hc85];rfl
 iterate 5 refine AX ?_
 refine .cl rfl call131 (evs1 rfl) (bfS _ _ aB _) ?_;iterate 4 refine AX ?_
 refine .seqTo 112 (.bool (decide (gr=true∧abF (l.take (alH l))=false∨sc<0∨sc>9∨sc>0∧zV (l.take (alH l)) 2=0))) [2] ?_ ?_
 ·refine AX ?_;refine .p rfl (zA U48 rfl Z4 (tm rfl)) ?_;iterate 2 refine AX ?_
  refine zC (t:=90) rfl (λhg90=>?_) (λhg90=>?_)
  ·have hh90:=hg90;try simp only[aL]at hh90
   iterate 4 refine AX ?_
   refine zC (t:=94) rfl (λhg94=>?_) (λhg94=>?_)
   ·have hh94:=hg94;try simp only[aL]at hh94
    iterate 19 refine AX ?_
    exact⟨rfl,zO rfl (by(refine Eq.symm ?_;first|exact aQ (.inr (.inr (.inr (.inr (.inl hh81)))))|exact aO.2 ⟨λh=>by rcases h with h|h|h|h|h|h<;>first|exact h|omega|(rw[hh81]at h;cases h),λh=>.inr (.inr (.inr (.inr (.inr h))))⟩|exact aQ (.inl ⟨hh90,hh94⟩)|exact aO.2 ⟨by rintro(⟨h1,h2⟩|h|h|⟨h1,h2⟩)<;>first|omega|simp_all,λh=>.inr (.inr (.inr ⟨by omega,by omega⟩))⟩|exact aP (by rintro(⟨h1,h2⟩|h|h|⟨h1,h2⟩)<;>first|omega|simp_all)|((with_reducible refine aO.2 ?_);(first|omega|simp[*]))|((with_reducible refine aQ ?_);(first|omega|simp[*]))|((with_reducible refine aP ?_);(first|omega|simp[*])))) (zF rfl zW),rfl⟩
   have hh94:=hg94;try simp only[aL]at hh94
   refine .gp rfl rfl rfl aB (zA U48 rfl Z3 (tm rfl)) ?_;iterate 4 refine AX ?_
   refine zC (t:=99) rfl (λhg99=>?_) (λhg99=>?_)
   ·have hh99:=hg99;try simp only[aL]at hh99
    iterate 14 refine AX ?_
    exact⟨rfl,zO rfl (by(refine Eq.symm ?_;first|exact aQ (.inr (.inr (.inr (.inr (.inl hh81)))))|exact aO.2 ⟨λh=>by rcases h with h|h|h|h|h|h<;>first|exact h|omega|(rw[hh81]at h;cases h),λh=>.inr (.inr (.inr (.inr (.inr h))))⟩|exact aQ (.inl ⟨hh90,hh94⟩)|exact aO.2 ⟨by rintro(⟨h1,h2⟩|h|h|⟨h1,h2⟩)<;>first|omega|simp_all,λh=>.inr (.inr (.inr ⟨by omega,by omega⟩))⟩|exact aP (by rintro(⟨h1,h2⟩|h|h|⟨h1,h2⟩)<;>first|omega|simp_all)|((with_reducible refine aO.2 ?_);(first|omega|simp[*]))|((with_reducible refine aQ ?_);(first|omega|simp[*]))|((with_reducible refine aP ?_);(first|omega|simp[*])))) (zF rfl zW),rfl⟩
   have hh99:=hg99;try simp only[aL]at hh99
   refine .gp rfl rfl rfl aB (zA U48 rfl Z3 (tm rfl)) ?_;iterate 4 refine AX ?_
   refine zC (t:=104) rfl (λhg104=>?_) (λhg104=>?_)
   ·have hh104:=hg104;try simp only[aL]at hh104
    iterate 9 refine AX ?_
    exact⟨rfl,zO rfl (by(refine Eq.symm ?_;first|exact aQ (.inr (.inr (.inr (.inr (.inl hh81)))))|exact aO.2 ⟨λh=>by rcases h with h|h|h|h|h|h<;>first|exact h|omega|(rw[hh81]at h;cases h),λh=>.inr (.inr (.inr (.inr (.inr h))))⟩|exact aQ (.inl ⟨hh90,hh94⟩)|exact aO.2 ⟨by rintro(⟨h1,h2⟩|h|h|⟨h1,h2⟩)<;>first|omega|simp_all,λh=>.inr (.inr (.inr ⟨by omega,by omega⟩))⟩|exact aP (by rintro(⟨h1,h2⟩|h|h|⟨h1,h2⟩)<;>first|omega|simp_all)|((with_reducible refine aO.2 ?_);(first|omega|simp[*]))|((with_reducible refine aQ ?_);(first|omega|simp[*]))|((with_reducible refine aP ?_);(first|omega|simp[*])))) (zF rfl zW),rfl⟩
   have hh104:=hg104;try simp only[aL]at hh104
   refine .gp rfl rfl rfl aB (zA U48 rfl Z3 (tm rfl)) ?_;iterate 3 refine AX ?_
   refine zC (t:=108) rfl (λhg108=>?_) (λhg108=>?_)
   ·have hh108:=hg108;try simp only[aL]at hh108
    iterate 5 refine AX ?_
    exact⟨rfl,zO rfl (by(refine Eq.symm ?_;first|exact aQ (.inr (.inr (.inr (.inr (.inl hh81)))))|exact aO.2 ⟨λh=>by rcases h with h|h|h|h|h|h<;>first|exact h|omega|(rw[hh81]at h;cases h),λh=>.inr (.inr (.inr (.inr (.inr h))))⟩|exact aQ (.inl ⟨hh90,hh94⟩)|exact aO.2 ⟨by rintro(⟨h1,h2⟩|h|h|⟨h1,h2⟩)<;>first|omega|simp_all,λh=>.inr (.inr (.inr ⟨by omega,by omega⟩))⟩|exact aP (by rintro(⟨h1,h2⟩|h|h|⟨h1,h2⟩)<;>first|omega|simp_all)|((with_reducible refine aO.2 ?_);(first|omega|simp[*]))|((with_reducible refine aQ ?_);(first|omega|simp[*]))|((with_reducible refine aP ?_);(first|omega|simp[*])))) (zF rfl zW),rfl⟩
   have hh108:=hg108;try simp only[aL]at hh108
   iterate 5 refine AX ?_
   exact⟨rfl,zO rfl (by(refine Eq.symm ?_;first|exact aQ (.inr (.inr (.inr (.inr (.inl hh81)))))|exact aO.2 ⟨λh=>by rcases h with h|h|h|h|h|h<;>first|exact h|omega|(rw[hh81]at h;cases h),λh=>.inr (.inr (.inr (.inr (.inr h))))⟩|exact aQ (.inl ⟨hh90,hh94⟩)|exact aO.2 ⟨by rintro(⟨h1,h2⟩|h|h|⟨h1,h2⟩)<;>first|omega|simp_all,λh=>.inr (.inr (.inr ⟨by omega,by omega⟩))⟩|exact aP (by rintro(⟨h1,h2⟩|h|h|⟨h1,h2⟩)<;>first|omega|simp_all)|((with_reducible refine aO.2 ?_);(first|omega|simp[*]))|((with_reducible refine aQ ?_);(first|omega|simp[*]))|((with_reducible refine aP ?_);(first|omega|simp[*])))) (zF rfl zW),rfl⟩
  have hh90:=hg90;try simp only[aL]at hh90
  iterate 4 refine AX ?_
  refine .gp rfl rfl rfl aD (zA U48 rfl Z3 (tm rfl)) ?_;iterate 4 refine AX ?_
  refine zC (t:=99) rfl (λhg99=>?_) (λhg99=>?_)
  ·have hh99:=hg99;try simp only[aL]at hh99
   iterate 14 refine AX ?_
   exact⟨rfl,zO rfl (by(refine Eq.symm ?_;first|exact aQ (.inr (.inr (.inr (.inr (.inl hh81)))))|exact aO.2 ⟨λh=>by rcases h with h|h|h|h|h|h<;>first|exact h|omega|(rw[hh81]at h;cases h),λh=>.inr (.inr (.inr (.inr (.inr h))))⟩|exact aQ (.inl ⟨hh90,hh94⟩)|exact aO.2 ⟨by rintro(⟨h1,h2⟩|h|h|⟨h1,h2⟩)<;>first|omega|simp_all,λh=>.inr (.inr (.inr ⟨by omega,by omega⟩))⟩|exact aP (by rintro(⟨h1,h2⟩|h|h|⟨h1,h2⟩)<;>first|omega|simp_all)|((with_reducible refine aO.2 ?_);(first|omega|simp[*]))|((with_reducible refine aQ ?_);(first|omega|simp[*]))|((with_reducible refine aP ?_);(first|omega|simp[*])))) (zF rfl zW),rfl⟩
  have hh99:=hg99;try simp only[aL]at hh99
  refine .gp rfl rfl rfl aB (zA U48 rfl Z3 (tm rfl)) ?_;iterate 4 refine AX ?_
  refine zC (t:=104) rfl (λhg104=>?_) (λhg104=>?_)
  ·have hh104:=hg104;try simp only[aL]at hh104
   iterate 9 refine AX ?_
   exact⟨rfl,zO rfl (by(refine Eq.symm ?_;first|exact aQ (.inr (.inr (.inr (.inr (.inl hh81)))))|exact aO.2 ⟨λh=>by rcases h with h|h|h|h|h|h<;>first|exact h|omega|(rw[hh81]at h;cases h),λh=>.inr (.inr (.inr (.inr (.inr h))))⟩|exact aQ (.inl ⟨hh90,hh94⟩)|exact aO.2 ⟨by rintro(⟨h1,h2⟩|h|h|⟨h1,h2⟩)<;>first|omega|simp_all,λh=>.inr (.inr (.inr ⟨by omega,by omega⟩))⟩|exact aP (by rintro(⟨h1,h2⟩|h|h|⟨h1,h2⟩)<;>first|omega|simp_all)|((with_reducible refine aO.2 ?_);(first|omega|simp[*]))|((with_reducible refine aQ ?_);(first|omega|simp[*]))|((with_reducible refine aP ?_);(first|omega|simp[*])))) (zF rfl zW),rfl⟩
  have hh104:=hg104;try simp only[aL]at hh104
  refine .gp rfl rfl rfl aB (zA U48 rfl Z3 (tm rfl)) ?_;iterate 3 refine AX ?_
  refine zC (t:=108) rfl (λhg108=>?_) (λhg108=>?_)
  ·have hh108:=hg108;try simp only[aL]at hh108
   iterate 5 refine AX ?_
   exact⟨rfl,zO rfl (by(refine Eq.symm ?_;first|exact aQ (.inr (.inr (.inr (.inr (.inl hh81)))))|exact aO.2 ⟨λh=>by rcases h with h|h|h|h|h|h<;>first|exact h|omega|(rw[hh81]at h;cases h),λh=>.inr (.inr (.inr (.inr (.inr h))))⟩|exact aQ (.inl ⟨hh90,hh94⟩)|exact aO.2 ⟨by rintro(⟨h1,h2⟩|h|h|⟨h1,h2⟩)<;>first|omega|simp_all,λh=>.inr (.inr (.inr ⟨by omega,by omega⟩))⟩|exact aP (by rintro(⟨h1,h2⟩|h|h|⟨h1,h2⟩)<;>first|omega|simp_all)|((with_reducible refine aO.2 ?_);(first|omega|simp[*]))|((with_reducible refine aQ ?_);(first|omega|simp[*]))|((with_reducible refine aP ?_);(first|omega|simp[*])))) (zF rfl zW),rfl⟩
  have hh108:=hg108;try simp only[aL]at hh108
  iterate 5 refine AX ?_
  exact⟨rfl,zO rfl (by(refine Eq.symm ?_;first|exact aQ (.inr (.inr (.inr (.inr (.inl hh81)))))|exact aO.2 ⟨λh=>by rcases h with h|h|h|h|h|h<;>first|exact h|omega|(rw[hh81]at h;cases h),λh=>.inr (.inr (.inr (.inr (.inr h))))⟩|exact aQ (.inl ⟨hh90,hh94⟩)|exact aO.2 ⟨by rintro(⟨h1,h2⟩|h|h|⟨h1,h2⟩)<;>first|omega|simp_all,λh=>.inr (.inr (.inr ⟨by omega,by omega⟩))⟩|exact aP (by rintro(⟨h1,h2⟩|h|h|⟨h1,h2⟩)<;>first|omega|simp_all)|((with_reducible refine aO.2 ?_);(first|omega|simp[*]))|((with_reducible refine aQ ?_);(first|omega|simp[*]))|((with_reducible refine aP ?_);(first|omega|simp[*])))) (zF rfl zW),rfl⟩
 refine .sub [(112,_),(2,_)] sX ?_;refine .cx rfl (λhc112=>?_) (λhc112=>?_)
 ·iterate 8 refine AX ?_
  refine⟨?_,rfl⟩;unfold axW;rw[aM hc48,aM (show¬atK l 5<l.length by omega),aN hc112];rfl
 iterate 9 refine AX ?_
 refine⟨?_,rfl⟩;unfold axW;rw[aM hc48,aM (show¬atK l 5<l.length by omega),aM hc112];rfl
def bcS(l:List ItN)(gr:Bool)(sc:Int)(tl:Tail)(H:Heap):Nat→Env→Heap→Prop:=λk env H1=>∃i:Nat,i≤l.length∧(l.take i).all afS=true∧env=[(1,.iptr [itS l tl,.bool gr,.int .i64 sc]),(3,itS l tl),(4,.int .i64 (i:Int))]∧H=H1∧k=l.length-i
theorem afK(l:List ItN)(gr:Bool)(sc:Int)(tl:Tail)(hl:l.length≤100000):Fn 16 [.agg [itS l tl,.bool gr,.int .i64 sc]] (.int .i64 (zY ⟨l,gr,sc⟩)):=by
 intro H;have hn2:=aaH l 2;have hn3:=aaH l 3;have hn4:=aaH l 4;have hn5:=aaH l 5;have hn6:=aaH l 6;have hn7:=aaH l 7;have hn8:=aaH l 8;have hn9:=aaH l 9;refine .of_body func16 rfl ntmps16 results16 rfl ?_;iterate 8 refine AX ?_
 refine .p rfl (zA U48 rfl Z46 (tm rfl)) ?_;iterate 11 refine AX ?_
 refine .loopW (bcS l gr sc tl H) (l.length) ⟨0,Nat.zero_le _,rfl,rfl,rfl,rfl⟩ sX (hRa _) ?_;rintro _ _ _ ⟨i,hi,hall,rfl,rfl,rfl⟩;iterate 9 refine AX ?_
 refine .cx rfl (λhc14=>?_) (λhc14=>?_)
 ·iterate 10 refine AX ?_
  refine .cl rfl call52 (evs1 rfl) (baK _ _) ?_;iterate 9 refine AX ?_
  refine .cx rfl (λhc23=>?_) (λhc23=>?_)
  ·iterate 12 refine AX ?_
   have hna:=bnX (show i<l.length by omega) (by simpa using hc23);refine⟨?_,rfl⟩;rw[←adL];unfold agX;rw[aN hna];rfl
  iterate 9 refine AX ?_
  refine Round.mk ⟨i+1,by omega,beP hall aA (by simpa using hc23),rfl,rfl,rfl⟩ sX (hRa _) aA
 have hil:i=l.length:=by omega
 subst hil;rw[bY]at hall;iterate 8 refine AX ?_
 refine .cl rfl C53 (.cons (tm rfl) (.cons zJ .nil)) (yI _ _ aB _ _) ?_;iterate 3 refine AX ?_
 refine .seqTo 7 (.bool (decide (gr=false∧sc=0))) [1,3,6] ?_ ?_
 ·refine AX ?_;refine .p rfl (zA U48 rfl Z4 (tm rfl)) ?_;iterate 3 refine AX ?_
  refine zC (t:=29) rfl (λhg29=>?_) (λhg29=>?_)
  ·have hh29:=hg29;try simp only[aL]at hh29
   refine .gp rfl rfl rfl aB (zA U48 rfl Z3 (tm rfl)) ?_;iterate 5 refine AX ?_
   exact⟨rfl,zO rfl (by(refine Eq.symm ?_;first|exact aO.2 ⟨λh=>h.2.2,λh=>⟨by omega,by omega,h⟩⟩|exact aP (λh=>by have h1:=h.1;have h2:=h.2.1;omega)|exact aO.2 ⟨λh=>h.2,λh=>⟨by omega,h⟩⟩|exact aP (λh=>by have h1:=h.1;omega)|exact aO.2 ⟨λh=>h.2,λh=>⟨hh29,h⟩⟩|exact aP (λh=>by rw[hh29]at h;cases h.1))) sX,rfl⟩
  have hh29:=hg29;try simp only[aL]at hh29
  iterate 6 refine AX ?_
  exact⟨rfl,zO rfl (by(refine Eq.symm ?_;first|exact aO.2 ⟨λh=>h.2.2,λh=>⟨by omega,by omega,h⟩⟩|exact aP (λh=>by have h1:=h.1;have h2:=h.2.1;omega)|exact aO.2 ⟨λh=>h.2,λh=>⟨by omega,h⟩⟩|exact aP (λh=>by have h1:=h.1;omega)|exact aO.2 ⟨λh=>h.2,λh=>⟨hh29,h⟩⟩|exact aP (λh=>by rw[hh29]at h;cases h.1))) sX,rfl⟩
 refine .sub [(7,_),(1,_),(3,_),(6,_)] sX ?_;iterate 3 refine AX ?_
 refine .cl rfl C53 (.cons (tm rfl) (.cons zJ .nil)) (yI _ _ aB _ _) ?_;refine AX ?_;refine .cl rfl C53 (.cons (tm rfl) (.cons zJ .nil)) (yI _ _ aB _ _) ?_;iterate 2 refine AX ?_
 refine .cl rfl C53 (.cons (tm rfl) (.cons zJ .nil)) (yI _ _ aB _ _) ?_;iterate 2 refine AX ?_
 refine .cl rfl C53 (.cons (tm rfl) (.cons zJ .nil)) (yI _ _ aB _ _) ?_;iterate 9 refine AX ?_
 refine .cl rfl C53 (.cons (tm rfl) (.cons zJ .nil)) (yI _ _ aB _ _) ?_;iterate 4 refine AX ?_
 refine .cx rfl (λhc45=>?_) (λhc45=>?_)
 ·refine AX ?_;refine .seqTo 63 (.bool (decide (zV l 7=1∧zV l 2+(zV l 3+zV l 4+zV l 5+zV l 6)+zV l 8=0∧(gr=false∧sc=0)))) [7,1,3,6,8] ?_ ?_
  ·iterate 2 refine AX ?_
   refine .cl rfl C53 (.cons (tm rfl) (.cons zJ .nil)) (yI _ _ aB _ _) ?_;iterate 2 refine AX ?_
   refine zC (t:=52) rfl (λhg52=>?_) (λhg52=>?_)
   ·have hh52:=hg52;try simp only[aL]at hh52
    iterate 4 refine AX ?_
    refine .gs rfl rfl rfl aB (zD C53 (.cons (tm rfl) (.cons zJ .nil)) (yI _ _ aB _ _)) ?_;rintro _ _ ⟨rfl,hH⟩;obtain rfl:=hH.symm;iterate 4 refine AX ?_
    refine zC (t:=61) rfl (λhg61=>?_) (λhg61=>?_)
    ·have hh61:=hg61;try simp only[aL]at hh61
     iterate 3 refine AX ?_
     exact⟨rfl,zO rfl (by(refine Eq.symm ?_;first|exact aO.2 ⟨λh=>h.2.2,λh=>⟨by omega,by omega,h⟩⟩|exact aP (λh=>by have h1:=h.1;have h2:=h.2.1;omega)|exact aO.2 ⟨λh=>h.2,λh=>⟨by omega,h⟩⟩|exact aP (λh=>by have h1:=h.1;omega)|exact aO.2 ⟨λh=>h.2,λh=>⟨hh29,h⟩⟩|exact aP (λh=>by rw[hh29]at h;cases h.1))) sX,rfl⟩
    have hh61:=hg61;try simp only[aL]at hh61
    iterate 3 refine AX ?_
    exact⟨rfl,zO rfl (by(refine Eq.symm ?_;first|exact aO.2 ⟨λh=>h.2.2,λh=>⟨by omega,by omega,h⟩⟩|exact aP (λh=>by have h1:=h.1;have h2:=h.2.1;omega)|exact aO.2 ⟨λh=>h.2,λh=>⟨by omega,h⟩⟩|exact aP (λh=>by have h1:=h.1;omega)|exact aO.2 ⟨λh=>h.2,λh=>⟨hh29,h⟩⟩|exact aP (λh=>by rw[hh29]at h;cases h.1))) sX,rfl⟩
   have hh52:=hg52;try simp only[aL]at hh52
   iterate 12 refine AX ?_
   exact⟨rfl,zO rfl (by(refine Eq.symm ?_;first|exact aO.2 ⟨λh=>h.2.2,λh=>⟨by omega,by omega,h⟩⟩|exact aP (λh=>by have h1:=h.1;have h2:=h.2.1;omega)|exact aO.2 ⟨λh=>h.2,λh=>⟨by omega,h⟩⟩|exact aP (λh=>by have h1:=h.1;omega)|exact aO.2 ⟨λh=>h.2,λh=>⟨hh29,h⟩⟩|exact aP (λh=>by rw[hh29]at h;cases h.1))) sX,rfl⟩
  refine .sub [(63,_),(7,_),(1,_),(3,_),(6,_),(8,_)] sX ?_;refine .cx rfl (λhc63=>?_) (λhc63=>?_)
  ·iterate 10 refine AX ?_
   refine⟨?_,rfl⟩;rw[←adL];unfold agX
   dsimp only
   first
   |(rw[aM (by rw[hall];simp),aK,aN hc63];rfl)
   |(rw[aM (by rw[hall];simp),aK,aM hc63];rfl)
   |(rw[aM (by rw[hall];simp),aJ,aK,aN hc77];rfl)
   |(rw[aM (by rw[hall];simp),aJ,aK,aM hc77];rfl)
   |(rw[aM (by rw[hall];simp),aJ,aJ,aK,aN hc83];rfl)
   |(rw[aM (by rw[hall];simp),aJ,aJ,aK,aM hc83];rfl)
   |(rw[aM (by rw[hall];simp),aJ,aJ,aJ,aK,aN hc88];rfl)
   |(rw[aM (by rw[hall];simp),aJ,aJ,aJ,aK,aM hc88];rfl)
   |(rw[aM (by rw[hall];simp),aJ,aJ,aJ,aJ];rfl)
  iterate 11 refine AX ?_
  refine⟨?_,rfl⟩;rw[←adL];unfold agX
  dsimp only
  first
  |(rw[aM (by rw[hall];simp),aK,aN hc63];rfl)
  |(rw[aM (by rw[hall];simp),aK,aM hc63];rfl)
  |(rw[aM (by rw[hall];simp),aJ,aK,aN hc77];rfl)
  |(rw[aM (by rw[hall];simp),aJ,aK,aM hc77];rfl)
  |(rw[aM (by rw[hall];simp),aJ,aJ,aK,aN hc83];rfl)
  |(rw[aM (by rw[hall];simp),aJ,aJ,aK,aM hc83];rfl)
  |(rw[aM (by rw[hall];simp),aJ,aJ,aJ,aK,aN hc88];rfl)
  |(rw[aM (by rw[hall];simp),aJ,aJ,aJ,aK,aM hc88];rfl)
  |(rw[aM (by rw[hall];simp),aJ,aJ,aJ,aJ];rfl)
 iterate 3 refine AX ?_
 refine .cl rfl C53 (.cons (tm rfl) (.cons zJ .nil)) (yI _ _ aB _ _) ?_;iterate 4 refine AX ?_
 refine .cx rfl (λhc64=>?_) (λhc64=>?_)
 ·refine AX ?_;refine .seqTo 77 (.bool (decide (zV l 2+(zV l 3+zV l 4+zV l 5+zV l 6)+zV l 9=0∧(gr=false∧sc=0)))) [7,1,3,6,8] ?_ ?_
  ·iterate 5 refine AX ?_
   refine .cl rfl C53 (.cons (tm rfl) (.cons zJ .nil)) (yI _ _ aB _ _) ?_;iterate 3 refine AX ?_
   refine zC (t:=75) rfl (λhg75=>?_) (λhg75=>?_)
   ·have hh75:=hg75;try simp only[aL]at hh75
    iterate 3 refine AX ?_
    exact⟨rfl,zO rfl (by(refine Eq.symm ?_;first|exact aO.2 ⟨λh=>h.2.2,λh=>⟨by omega,by omega,h⟩⟩|exact aP (λh=>by have h1:=h.1;have h2:=h.2.1;omega)|exact aO.2 ⟨λh=>h.2,λh=>⟨by omega,h⟩⟩|exact aP (λh=>by have h1:=h.1;omega)|exact aO.2 ⟨λh=>h.2,λh=>⟨hh29,h⟩⟩|exact aP (λh=>by rw[hh29]at h;cases h.1))) sX,rfl⟩
   have hh75:=hg75;try simp only[aL]at hh75
   iterate 3 refine AX ?_
   exact⟨rfl,zO rfl (by(refine Eq.symm ?_;first|exact aO.2 ⟨λh=>h.2.2,λh=>⟨by omega,by omega,h⟩⟩|exact aP (λh=>by have h1:=h.1;have h2:=h.2.1;omega)|exact aO.2 ⟨λh=>h.2,λh=>⟨by omega,h⟩⟩|exact aP (λh=>by have h1:=h.1;omega)|exact aO.2 ⟨λh=>h.2,λh=>⟨hh29,h⟩⟩|exact aP (λh=>by rw[hh29]at h;cases h.1))) sX,rfl⟩
  refine .sub [(77,_),(7,_),(1,_),(3,_),(6,_),(8,_)] sX ?_;refine .cx rfl (λhc77=>?_) (λhc77=>?_)
  ·iterate 10 refine AX ?_
   refine⟨?_,rfl⟩;rw[←adL];unfold agX
   dsimp only
   first
   |(rw[aM (by rw[hall];simp),aK,aN hc63];rfl)
   |(rw[aM (by rw[hall];simp),aK,aM hc63];rfl)
   |(rw[aM (by rw[hall];simp),aJ,aK,aN hc77];rfl)
   |(rw[aM (by rw[hall];simp),aJ,aK,aM hc77];rfl)
   |(rw[aM (by rw[hall];simp),aJ,aJ,aK,aN hc83];rfl)
   |(rw[aM (by rw[hall];simp),aJ,aJ,aK,aM hc83];rfl)
   |(rw[aM (by rw[hall];simp),aJ,aJ,aJ,aK,aN hc88];rfl)
   |(rw[aM (by rw[hall];simp),aJ,aJ,aJ,aK,aM hc88];rfl)
   |(rw[aM (by rw[hall];simp),aJ,aJ,aJ,aJ];rfl)
  iterate 11 refine AX ?_
  refine⟨?_,rfl⟩;rw[←adL];unfold agX
  dsimp only
  first
  |(rw[aM (by rw[hall];simp),aK,aN hc63];rfl)
  |(rw[aM (by rw[hall];simp),aK,aM hc63];rfl)
  |(rw[aM (by rw[hall];simp),aJ,aK,aN hc77];rfl)
  |(rw[aM (by rw[hall];simp),aJ,aK,aM hc77];rfl)
  |(rw[aM (by rw[hall];simp),aJ,aJ,aK,aN hc83];rfl)
  |(rw[aM (by rw[hall];simp),aJ,aJ,aK,aM hc83];rfl)
  |(rw[aM (by rw[hall];simp),aJ,aJ,aJ,aK,aN hc88];rfl)
  |(rw[aM (by rw[hall];simp),aJ,aJ,aJ,aK,aM hc88];rfl)
  |(rw[aM (by rw[hall];simp),aJ,aJ,aJ,aJ];rfl)
 iterate 9 refine AX ?_
 refine .cx rfl (λhc78=>?_) (λhc78=>?_)
 ·iterate 6 refine AX ?_
  refine .cx rfl (λhc83=>?_) (λhc83=>?_)
  ·iterate 10 refine AX ?_
   refine⟨?_,rfl⟩;rw[←adL];unfold agX
   dsimp only
   first
   |(rw[aM (by rw[hall];simp),aK,aN hc63];rfl)
   |(rw[aM (by rw[hall];simp),aK,aM hc63];rfl)
   |(rw[aM (by rw[hall];simp),aJ,aK,aN hc77];rfl)
   |(rw[aM (by rw[hall];simp),aJ,aK,aM hc77];rfl)
   |(rw[aM (by rw[hall];simp),aJ,aJ,aK,aN hc83];rfl)
   |(rw[aM (by rw[hall];simp),aJ,aJ,aK,aM hc83];rfl)
   |(rw[aM (by rw[hall];simp),aJ,aJ,aJ,aK,aN hc88];rfl)
   |(rw[aM (by rw[hall];simp),aJ,aJ,aJ,aK,aM hc88];rfl)
   |(rw[aM (by rw[hall];simp),aJ,aJ,aJ,aJ];rfl)
  iterate 11 refine AX ?_
  refine⟨?_,rfl⟩;rw[←adL];unfold agX
  dsimp only
  first
  |(rw[aM (by rw[hall];simp),aK,aN hc63];rfl)
  |(rw[aM (by rw[hall];simp),aK,aM hc63];rfl)
  |(rw[aM (by rw[hall];simp),aJ,aK,aN hc77];rfl)
  |(rw[aM (by rw[hall];simp),aJ,aK,aM hc77];rfl)
  |(rw[aM (by rw[hall];simp),aJ,aJ,aK,aN hc83];rfl)
  |(rw[aM (by rw[hall];simp),aJ,aJ,aK,aM hc83];rfl)
  |(rw[aM (by rw[hall];simp),aJ,aJ,aJ,aK,aN hc88];rfl)
  |(rw[aM (by rw[hall];simp),aJ,aJ,aJ,aK,aM hc88];rfl)
  |(rw[aM (by rw[hall];simp),aJ,aJ,aJ,aJ];rfl)
 iterate 3 refine AX ?_
 refine .cl rfl C53 (.cons (tm rfl) (.cons zJ .nil)) (yI _ _ aB _ _) ?_;iterate 4 refine AX ?_
 refine .cx rfl (λhc84=>?_) (λhc84=>?_)
 ·iterate 6 refine AX ?_
  refine .cx rfl (λhc88=>?_) (λhc88=>?_)
  ·iterate 3 refine AX ?_
   refine .cl rfl call54 (evs1 rfl) (baM _ _ aB _) ?_;iterate 8 refine AX ?_
   refine⟨?_,rfl⟩;rw[←adL];unfold agX
   dsimp only
   first
   |(rw[aM (by rw[hall];simp),aK,aN hc63];rfl)
   |(rw[aM (by rw[hall];simp),aK,aM hc63];rfl)
   |(rw[aM (by rw[hall];simp),aJ,aK,aN hc77];rfl)
   |(rw[aM (by rw[hall];simp),aJ,aK,aM hc77];rfl)
   |(rw[aM (by rw[hall];simp),aJ,aJ,aK,aN hc83];rfl)
   |(rw[aM (by rw[hall];simp),aJ,aJ,aK,aM hc83];rfl)
   |(rw[aM (by rw[hall];simp),aJ,aJ,aJ,aK,aN hc88];rfl)
   |(rw[aM (by rw[hall];simp),aJ,aJ,aJ,aK,aM hc88];rfl)
   |(rw[aM (by rw[hall];simp),aJ,aJ,aJ,aJ];rfl)
  iterate 11 refine AX ?_
  refine⟨?_,rfl⟩;rw[←adL];unfold agX
  dsimp only
  first
  |(rw[aM (by rw[hall];simp),aK,aN hc63];rfl)
  |(rw[aM (by rw[hall];simp),aK,aM hc63];rfl)
  |(rw[aM (by rw[hall];simp),aJ,aK,aN hc77];rfl)
  |(rw[aM (by rw[hall];simp),aJ,aK,aM hc77];rfl)
  |(rw[aM (by rw[hall];simp),aJ,aJ,aK,aN hc83];rfl)
  |(rw[aM (by rw[hall];simp),aJ,aJ,aK,aM hc83];rfl)
  |(rw[aM (by rw[hall];simp),aJ,aJ,aJ,aK,aN hc88];rfl)
  |(rw[aM (by rw[hall];simp),aJ,aJ,aJ,aK,aM hc88];rfl)
  |(rw[aM (by rw[hall];simp),aJ,aJ,aJ,aJ];rfl)
 iterate 6 refine AX ?_
 refine .cl rfl call55 (evs1 rfl) (awX _ _ _ _ aB _) ?_;iterate 5 refine AX ?_
 refine⟨?_,rfl⟩;rw[←adL];unfold agX
 dsimp only
 first
 |(rw[aM (by rw[hall];simp),aK,aN hc63];rfl)
 |(rw[aM (by rw[hall];simp),aK,aM hc63];rfl)
 |(rw[aM (by rw[hall];simp),aJ,aK,aN hc77];rfl)
 |(rw[aM (by rw[hall];simp),aJ,aK,aM hc77];rfl)
 |(rw[aM (by rw[hall];simp),aJ,aJ,aK,aN hc83];rfl)
 |(rw[aM (by rw[hall];simp),aJ,aJ,aK,aM hc83];rfl)
 |(rw[aM (by rw[hall];simp),aJ,aJ,aJ,aK,aN hc88];rfl)
 |(rw[aM (by rw[hall];simp),aJ,aJ,aJ,aK,aM hc88];rfl)
 |(rw[aM (by rw[hall];simp),aJ,aJ,aJ,aJ];rfl)
def bcO(p:List SecN)(tp:Tail)(H:Heap):Nat→Env→Heap→Prop:=λk env H1=>∃i:Nat,i≤p.length∧(∀q,q<i→azJ p.length q (zY (aiN p q))=false)∧env=[(0,adV p tp),(3,.int .i64 (i:Int))]∧H=H1∧k=p.length-i
theorem awR(p:List SecN)(tp:Tail)(hs:∀s,s∈p→s.items.length≤1000)(hp:p.length≤1000)(H:Heap):ACall prog 56 [adV p tp] H (λy H'=>∃q:Int,y= .int .i64 q∧decide (q<0)= !aeN p∧H'=H):=by
 refine .of_body func56 rfl ntmps56 results56 rfl ?_;iterate 12 refine AX ?_
 refine .loopW (bcO p tp H) (p.length) ⟨0,Nat.zero_le _,λq h=>by omega,rfl,rfl,rfl⟩ sX (hRa _) ?_;rintro _ _ _ ⟨i,hi,hno,rfl,rfl,rfl⟩;iterate 9 refine AX ?_
 refine .cx rfl (λhc8=>?_) (λhc8=>?_)
 ·iterate 10 refine AX ?_
  refine .cl rfl C16 (evs1 rfl) (afK (p[i]'aA).items (p[i]'aA).grouped (p[i]'aA).scale _ (by have:=hs _ (bM (show i<p.length by omega));omega) _) ?_;have hbi:=brS p.length i (zY (aiN p i));rw[show(SecN.mk (p[i]'aA).items (p[i]'aA).grouped (p[i]'aA).scale)=aiN p i from(adX aA).symm];generalize hkk:zY (aiN p i)=k at *;iterate 3 refine AX ?_
  refine .seqTo 42 (.bool (decide (k=0∨(k=6∧i<3∧1<p.length)∨(i=3∧k≠1∧k≠6)))) [0,3] ?_ ?_
  ·iterate 4 refine AX ?_
   refine zC (t:=18) rfl (λhg18=>?_) (λhg18=>?_)
   ·have hh18:=hg18;try simp only[aL]at hh18
    iterate 25 refine AX ?_
    exact⟨rfl,zO rfl (by(refine Eq.symm ?_;first|((with_reducible refine aO.2 ?_);(first|omega|simp[*]))|((with_reducible refine aQ ?_);(first|omega|simp[*]))|((with_reducible refine aP ?_);(first|omega|simp[*])))) sX,rfl⟩
   have hh18:=hg18;try simp only[aL]at hh18
   iterate 3 refine AX ?_
   refine zC (t:=21) rfl (λhg21=>?_) (λhg21=>?_)
   ·have hh21:=hg21;try simp only[aL]at hh21
    iterate 4 refine AX ?_
    refine zC (t:=25) rfl (λhg25=>?_) (λhg25=>?_)
    ·have hh25:=hg25;try simp only[aL]at hh25
     iterate 6 refine AX ?_
     refine zC (t:=31) rfl (λhg31=>?_) (λhg31=>?_)
     ·have hh31:=hg31;try simp only[aL]at hh31
      iterate 12 refine AX ?_
      exact⟨rfl,zO rfl (by(refine Eq.symm ?_;first|((with_reducible refine aO.2 ?_);(first|omega|simp[*]))|((with_reducible refine aQ ?_);(first|omega|simp[*]))|((with_reducible refine aP ?_);(first|omega|simp[*])))) sX,rfl⟩
     have hh31:=hg31;try simp only[aL]at hh31
     iterate 3 refine AX ?_
     refine zC (t:=34) rfl (λhg34=>?_) (λhg34=>?_)
     ·have hh34:=hg34;try simp only[aL]at hh34
      iterate 4 refine AX ?_
      refine zC (t:=38) rfl (λhg38=>?_) (λhg38=>?_)
      ·have hh38:=hg38;try simp only[aL]at hh38
       iterate 5 refine AX ?_
       exact⟨rfl,zO rfl (by(refine Eq.symm ?_;first|((with_reducible refine aO.2 ?_);(first|omega|simp[*]))|((with_reducible refine aQ ?_);(first|omega|simp[*]))|((with_reducible refine aP ?_);(first|omega|simp[*])))) sX,rfl⟩
      have hh38:=hg38;try simp only[aL]at hh38
      iterate 5 refine AX ?_
      exact⟨rfl,zO rfl (by(refine Eq.symm ?_;first|((with_reducible refine aO.2 ?_);(first|omega|simp[*]))|((with_reducible refine aQ ?_);(first|omega|simp[*]))|((with_reducible refine aP ?_);(first|omega|simp[*])))) sX,rfl⟩
     have hh34:=hg34;try simp only[aL]at hh34
     iterate 9 refine AX ?_
     exact⟨rfl,zO rfl (by(refine Eq.symm ?_;first|((with_reducible refine aO.2 ?_);(first|omega|simp[*]))|((with_reducible refine aQ ?_);(first|omega|simp[*]))|((with_reducible refine aP ?_);(first|omega|simp[*])))) sX,rfl⟩
    have hh25:=hg25;try simp only[aL]at hh25
    iterate 9 refine AX ?_
    refine zC (t:=34) rfl (λhg34=>?_) (λhg34=>?_)
    ·have hh34:=hg34;try simp only[aL]at hh34
     iterate 4 refine AX ?_
     refine zC (t:=38) rfl (λhg38=>?_) (λhg38=>?_)
     ·have hh38:=hg38;try simp only[aL]at hh38
      iterate 5 refine AX ?_
      exact⟨rfl,zO rfl (by(refine Eq.symm ?_;first|((with_reducible refine aO.2 ?_);(first|omega|simp[*]))|((with_reducible refine aQ ?_);(first|omega|simp[*]))|((with_reducible refine aP ?_);(first|omega|simp[*])))) sX,rfl⟩
     have hh38:=hg38;try simp only[aL]at hh38
     iterate 5 refine AX ?_
     exact⟨rfl,zO rfl (by(refine Eq.symm ?_;first|((with_reducible refine aO.2 ?_);(first|omega|simp[*]))|((with_reducible refine aQ ?_);(first|omega|simp[*]))|((with_reducible refine aP ?_);(first|omega|simp[*])))) sX,rfl⟩
    have hh34:=hg34;try simp only[aL]at hh34
    iterate 9 refine AX ?_
    exact⟨rfl,zO rfl (by(refine Eq.symm ?_;first|((with_reducible refine aO.2 ?_);(first|omega|simp[*]))|((with_reducible refine aQ ?_);(first|omega|simp[*]))|((with_reducible refine aP ?_);(first|omega|simp[*])))) sX,rfl⟩
   have hh21:=hg21;try simp only[aL]at hh21
   iterate 13 refine AX ?_
   refine zC (t:=34) rfl (λhg34=>?_) (λhg34=>?_)
   ·have hh34:=hg34;try simp only[aL]at hh34
    iterate 4 refine AX ?_
    refine zC (t:=38) rfl (λhg38=>?_) (λhg38=>?_)
    ·have hh38:=hg38;try simp only[aL]at hh38
     iterate 5 refine AX ?_
     exact⟨rfl,zO rfl (by(refine Eq.symm ?_;first|((with_reducible refine aO.2 ?_);(first|omega|simp[*]))|((with_reducible refine aQ ?_);(first|omega|simp[*]))|((with_reducible refine aP ?_);(first|omega|simp[*])))) sX,rfl⟩
    have hh38:=hg38;try simp only[aL]at hh38
    iterate 5 refine AX ?_
    exact⟨rfl,zO rfl (by(refine Eq.symm ?_;first|((with_reducible refine aO.2 ?_);(first|omega|simp[*]))|((with_reducible refine aQ ?_);(first|omega|simp[*]))|((with_reducible refine aP ?_);(first|omega|simp[*])))) sX,rfl⟩
   have hh34:=hg34;try simp only[aL]at hh34
   iterate 9 refine AX ?_
   exact⟨rfl,zO rfl (by(refine Eq.symm ?_;first|((with_reducible refine aO.2 ?_);(first|omega|simp[*]))|((with_reducible refine aQ ?_);(first|omega|simp[*]))|((with_reducible refine aP ?_);(first|omega|simp[*])))) sX,rfl⟩
  refine .sub [(42,_),(0,_),(3,_)] sX ?_;refine .cx rfl (λhc42=>?_) (λhc42=>?_)
  ·iterate 13 refine AX ?_
   refine⟨_,rfl,?_,rfl⟩;have hw:aeN p=true:=by
    unfold aeN;rw[List.any_eq_true];exact⟨i,fF.2 aA,by rw[hkk,hbi];exact aQ hc42⟩
   rw[hw];exact aP aA
  iterate 9 refine AX ?_
  refine Round.mk ⟨i+1,by omega,λq hq=>(bV q i).elim (hno q) (λh=>by rw[show q=i by omega,hkk,hbi];exact aP hc42),rfl,rfl,rfl⟩ sX (hRa _) aA
 iterate 12 refine AX ?_
 refine⟨_,rfl,?_,rfl⟩;have hw:aeN p=false:=by
  unfold aeN;rw[List.any_eq_false];intro q hq;rw[hno q (by have:=fF.1 hq;omega)];simp
 rw[hw];rfl
theorem bsO{p:List SecN}{i:Nat}(h:i<p.length):p[i].items.length≤anP p:=by
 have h1:=aoO h;have h2:=bjI p (i+1);omega
def bcW(p:List SecN)(tp:Tail)(H:Heap):Nat→Env→Heap→Prop:=λk env H1=>∃i:Nat,i≤p.length∧anP (p.take i)≤100*i∧env=[(0,adV p tp),(3,.int .i64 (anP (p.take i):Int)),(4,.int .i64 (i:Int))]∧H=H1∧k=p.length-i
theorem aeA(p:List SecN)(tp:Tail)(hs:∀s,s∈p→s.items.length≤1000):Fn 18 [adV p tp] (.bool (aaN p)):=by
 intro H;refine .of_body func18 rfl ntmps18 results18 rfl ?_;iterate 6 refine AX ?_
 refine .seqTo 12 (.bool (decide (p.length<1∨4<p.length))) [0,2] ?_ ?_
 ·iterate 5 refine AX ?_
  refine zC (t:=8) rfl (λhg8=>?_) (λhg8=>?_)
  ·have hh8:=hg8;try simp only[aL]at hh8
   iterate 5 refine AX ?_
   exact⟨rfl,zO rfl (by(refine Eq.symm ?_;first|((with_reducible refine aO.2 ?_);(first|omega|simp[*]))|((with_reducible refine aQ ?_);(first|omega|simp[*]))|((with_reducible refine aP ?_);(first|omega|simp[*])))) sX,rfl⟩
  have hh8:=hg8;try simp only[aL]at hh8
  iterate 5 refine AX ?_
  exact⟨rfl,zO rfl (by(refine Eq.symm ?_;first|((with_reducible refine aO.2 ?_);(first|omega|simp[*]))|((with_reducible refine aQ ?_);(first|omega|simp[*]))|((with_reducible refine aP ?_);(first|omega|simp[*])))) sX,rfl⟩
 refine .sub [(12,_),(0,_),(2,_)] sX ?_;refine .cx rfl (λhc12=>?_) (λhc12=>?_)
 ·iterate 8 refine AX ?_
  refine⟨?_,rfl⟩;unfold aaN;rw[aP aA];rfl
 iterate 14 refine AX ?_
 refine .loopW (bcW p tp H) (p.length) ⟨0,Nat.zero_le _,by simp[anP],rfl,rfl,rfl⟩ sX (hRa _) ?_;rintro _ _ _ ⟨i,hi,hsm,rfl,rfl,rfl⟩;iterate 9 refine AX ?_
 refine .cx rfl (λhc16=>?_) (λhc16=>?_)
 ·have hsi:=hs _ (bM (show i<p.length by omega));have hnx:=aoO (show i<p.length by omega);have hxx:(p[((i:Nat):Int).toNat]'aA).items.length=(p[i]'aA).items.length:=rfl;iterate 10 refine AX ?_
  refine .p rfl (zA U48 rfl Z46 (tm rfl)) ?_;iterate 5 refine AX ?_
  refine .cx rfl (λhc25=>?_) (λhc25=>?_)
  ·iterate 13 refine AX ?_
   have hge:=bsO (show i<p.length by omega);refine⟨?_,rfl⟩;unfold aaN;rw[aP aA];rfl
  iterate 7 refine AX ?_
  refine .p rfl (zA U48 rfl Z46 (tm rfl)) ?_;iterate 13 refine AX ?_
  refine Round.mk ⟨i+1,by omega,by rw[hnx];omega,rfl,rfl,rfl⟩ (zF rfl (zU rfl (by rw[hnx];rfl) (zF rfl zW))) (hRa _) aA
 have hil:i=p.length:=by omega
 subst hil;rw[bY]at hsm;rw[bY];iterate 5 refine AX ?_
 refine .seqTo 2 (.bool (decide (anP p≤100)&& !aeN p)) [] ?_ ?_
 ·iterate 4 refine AX ?_
  refine zC (t:=36) rfl (λhg36=>?_) (λhg36=>?_)
  ·have hh36:=hg36;try simp only[aL]at hh36
   refine AX ?_;refine .gs rfl rfl rfl aB (zD call56 (evs1 rfl) (awR _ _ hs aA _)) ?_;rintro _ _ ⟨q,rfl,hq,hH⟩;obtain rfl:=hH.symm;iterate 4 refine AX ?_
   exact⟨rfl,zO rfl (by(rw[hq,aQ (show anP p≤100 by omega)];rfl)) zW,rfl⟩
  have hh36:=hg36;try simp only[aL]at hh36
  iterate 6 refine AX ?_
  exact⟨rfl,zO rfl (by(rw[aP (show¬anP p≤100 by omega)];rfl)) zW,rfl⟩
 refine .sub [(2,_)] (zF rfl zW) ?_;iterate 2 refine AX ?_
 refine⟨?_,rfl⟩;unfold aaN;rw[show decide (1≤p.length∧p.length≤4∧anP p≤100)=decide (anP p≤100)from aO.2 aA];rfl
end Go.Proofs.YteedncdcbgplfaaGreatDoor
