import Derived.Test.YteedncdcbgplfaaGreatDoorS4
import Derived.ProofKit
import Derived.SizedLaws
import Derived.OpenShut
namespace Go.Proofs.YteedncdcbgplfaaGreatDoor
open Go.Proofs.Tryz
open Go Go.RowKit
variable{P:Program}{xs:List AV}{W:World}{t:TypeId}{g:G}
def g0(W:World)(hI:Inv W):G:=⟨W,λb o=>W.cell? ⟨b,o,none⟩,λ_=>none,0,hI⟩
theorem sat0(W:World)(hI:Inv W):Sat (g0 W hI) Heap.empty W:={
  below:=Below.refl _ _
  imm _ _ _ h:=h
  box _ _ _ h:=by cases h
  map _ _ h:=by cases h
  raw _ _ h:=by cases h
  own _ _ h:=by cases h
  tok _ _ _ _ h:=by cases h
  tokLt _ h:=by cases h
  sep _ _ _ _ _ _ _ h:=by cases h}
theorem akM{f:FuncId}{hI:Inv W}{vs:List Value}(h:∀H,ACall P f xs H λx H'=>x= .bool true∧H'=H)(hv:RelVs (g0 W hI) xs vs):
  Calls P f vs.toArray W λe W'=>e= .returned (.bool true)∧Below W.heap.size W W':=
 (h Heap.empty (g0 W hI) vs W hv (sat0 W hI)).mono λe W' ⟨v,he,g',x,H',hle,hr,hs,hx,_⟩=>by
  subst hx;cases hr
  have:=hs.below;rw[hle.base]at this;exact⟨he,this⟩
def Rd(P:Program)(W:World)(hI:Inv W)(t:TypeId){α:Type}(av:α→AV)(ok:α→Prop):Prop:=
 ∀{H:Type}(enc:TypeId×Value→H)(fuel:Nat)(x:DataW H×List MemPlace)(cs:List Value),DataW.trod enc P W 0 (λ_=>true) true fuel t cs=some x→∃a,ok a∧RelCells (g0 W hI) (av a).cells cs.toArray
theorem akA{hI:Inv W}{k:IntKind}(hu:P.underlying t=some (.int k)):Rd P W hI t (AV.int k) (λn=>(Lit.int k n).wf=true):=by
 intro H enc fuel x cs h;obtain⟨n,rfl,_,hw⟩:=DataW.trod_int hu h;exact⟨n,hw,RelCells.one (.int k n)⟩
theorem bvF{hI:Inv W}(hu:P.underlying t=some .bool):Rd P W hI t AV.bool (λ_=>True):=by
 intro H enc fuel x cs h;obtain⟨b,rfl,_⟩:=DataW.trod_bool hu h;exact⟨b,trivial,RelCells.one (.bool b)⟩
theorem axD{hI:Inv W}(hu:P.underlying t=some .string):Rd P W hI t AV.str (λs=>s.length≤maxLen):=by
 intro H enc fuel x cs h;obtain⟨s,rfl,_,hw⟩:=DataW.trod_string hu h;have e:s=⟨s.data.toList.toArray⟩:=by cases s;rfl
 have hw':s.data.toList.length≤maxLen:=by simpa using hw
 refine⟨s.data.toList,hw',?_⟩;have:=RelV.str (g:=g0 W hI) s.data.toList hw';rw[←e]at this;exact RelCells.one this
theorem aqO{a:Addr}{n:Nat}{cs:List Value}(h:W.cells? 0 a n=some cs):cs.length=n∧∀i,i<n→∃v,cs[i]?=some v∧W.cell? (a.add i)=some v:=by
 unfold World.cells? at h;rw[aN (Nat.zero_le _)]at h;have hl:cs.length=n:=by simpa using mapM_some_length h
 refine⟨hl,λi hi=>?_⟩;have:=mapM_some_get h i i (by simp[hi]);exact⟨cs[i]'aA,aV aA,by rw[this,aV aA]⟩
theorem bdC{hI:Inv W}{e:TypeId}{sz:Nat}{α:Type}{av:α→AV}{ok:α→Prop}(hu:P.underlying t=some (.slice e))(hsz:P.cellsOf e=sz)(hpos:0<sz)(hrow:∀a,(av a).row sz)(he:Rd P W hI e av ok):
  Rd P W hI t (λl:List α=>.slice sz (l.map av) .shared) (λl=>l.length≤maxLen∧∀a,a∈l→ok a):=by
 intro H enc fuel x cs h;rcases DataW.trod_slice hu h with⟨rfl,_⟩|⟨a,len,cap,elems,rest,n,_,rfl,_,_,hlc,hcap,hel,hget,hrest,_⟩
 ·exact⟨[],⟨Nat.zero_le _,λa ha=>by simp at ha⟩,RelCells.one (.nilSlice _ _)⟩
 rw[hsz]at hget hrest;by_cases hc0:cap=0
 ·have hl0:len=0:=by omega
  subst hc0;subst hl0;exact⟨[],⟨Nat.zero_le _,λa ha=>by simp at ha⟩,RelCells.one (.voidSlice _ _)⟩
 
 obtain⟨b,off,spot⟩:=a;have hspot:spot=none:=by
  rcases bE len with h0|h0
  ·obtain⟨hr1,hr2⟩:=hrest rfl;have hr:=hr2 0 aA;rw[aV (by omega:0<rest.length)]at hr;simp only[Option.bind_eq_some_iff]at hr;obtain⟨c0,hc0',_⟩:=hr;obtain⟨_,hcl⟩:=aqO hc0';obtain⟨v,_,hv⟩:=hcl 0 hpos;subst h0;simp only[cE,cU]at hv;have:=World.cell?_spot hv;simpa[Addr.add]using this
  have hr:=hget 0 h0;rw[aV (by omega:0<elems.length)]at hr;simp only[Option.bind_eq_some_iff]at hr;obtain⟨c0,hc0',_⟩:=hr;obtain⟨_,hcl⟩:=aqO hc0';obtain⟨v,_,hv⟩:=hcl 0 hpos;simp only[cU]at hv;have:=World.cell?_spot hv;simpa[Addr.add]using this
 subst hspot;have key:∀i:Fin len,∃a,ok a∧∀j c,(av a).cells[j]?=some c→∃v,W.cell? ⟨b,off+(i.1*sz+j),none⟩=some v∧RelV (g0 W hI) c v:=by
  intro i;have hr:=hget i.1 i.2;rw[aV (by omega:i.1<elems.length)]at hr;simp only[Option.bind_eq_some_iff]at hr;obtain⟨ci,hci,hti⟩:=hr;obtain⟨a,ha,hrel⟩:=he enc n _ ci hti;obtain⟨hcil,hcl⟩:=aqO hci;refine⟨a,ha,λj c hc=>?_⟩;obtain⟨v,hv,hrv⟩:=hrel.at hc;have hj:j<sz:=by have:=(bL.1 hc).1;rw[(hrow a).1]at this;exact this
  obtain⟨u,hu',hcu⟩:=hcl j hj;have:u=v:=by simpa[hu']using hv
  subst this;rw[Addr.add_off,Addr.add_off]at hcu;rw[←eF];exact⟨u,hcu,hrv⟩
 classical
 let f:Fin len→α:=λi=>(key i).choose
 have hf:∀i,ok (f i)∧∀j c,(av (f i)).cells[j]?=some c→∃v,W.cell? ⟨b,off+(i.1*sz+j),none⟩=some v∧RelV (g0 W hI) c v:=λi=>(key i).choose_spec;refine⟨List.ofFn f,⟨by simp;omega,λa ha=>?_⟩,?_⟩
 ·obtain⟨i,rfl⟩:=List.mem_ofFn.1 ha;exact(hf i).1
 have hlen:((List.ofFn f).map av).length=len:=by simp
 have:=RelV.slice (g:=g0 W hI) sz ((List.ofFn f).map av) .shared b off cap (λi=>(W.cell? ⟨b,off+i,none⟩).getD undef) (λx hx=>by
     obtain⟨a,_,rfl⟩:=eE.1 hx;exact hrow a)
  (λi hi=>by
    rw[hlen]at hi;have hq:i/sz<len:=Nat.div_lt_of_lt_mul (by rw[bO];exact hi);have hm:i%sz<sz:=bX _ hpos;have hcl:=(hrow (f ⟨i/sz,hq⟩)).1;obtain⟨v,hv,_⟩:=(hf ⟨i/sz,hq⟩).2 (i%sz) _ (aV aA);simp only at hv;rw[show i/sz*sz+i%sz=i by rw[bO];exact dJ _ _]at hv;show W.cell? ⟨b,off+i,none⟩=_;rw[hv];rfl)
  (λi j x c hx hc=>by
    have hi:i<len:=by have:=(bL.1 hx).1;omega
    have hx':x=av (f ⟨i,hi⟩):=by simpa[hi]using hx.symm
    subst hx';obtain⟨v,hv,hrv⟩:=(hf ⟨i,hi⟩).2 j c hc;simp only at hv;rw[hv];exact hrv)
  (by rw[hlen];exact hlc) hcap trivial
 rw[hlen]at this;exact RelCells.one this
theorem RelCells.pieces{ys:List AV}{cs:List Value}{n:Nat}(h1:RelCells g xs (cs.take n).toArray)(h2:RelCells g ys (cs.drop n).toArray):RelCells g (xs++ys) cs.toArray:=by
 have:=h1.append h2;simpa using this
theorem auG{hI:Inv W}{fs:Array Field}{H:Type}{enc:TypeId×Value→H}{fuel:Nat}{x:DataW H×List MemPlace}{cs:List Value}(hu:P.underlying t=some (.struct fs))
  (h:DataW.trod enc P W 0 (λ_=>true) true fuel t cs=some x):cs.length=P.cellsOf t∧∀(i:Nat)(f:Field),fs[i]?=some f→∀(o n:Nat),f.offset=o→P.cellsOf f.type=n→∀{α:Type}{av:α→AV}{ok:α→Prop},Rd P W hI f.type av ok→∃a,ok a∧RelCells (g0 W hI) (av a).cells ((cs.drop o).take n).toArray:=by
 obtain⟨xs,n,_,_,hl,hxl,hget⟩:=DataW.trod_struct hu h;refine⟨hl,λi f hf o m ho hm α av ok hrd=>?_⟩;subst ho;subst hm;have hi:i<xs.length:=by rw[hxl];exact(bU.1 hf).1
 have:=hget i f hf;rw[aV hi]at this;exact hrd enc n _ _ this
theorem amS{hI:Inv W}{α:Type}{av:α→AV}{ok:α→Prop}(hrd:Rd P W hI t av ok){H:Type}{enc:TypeId×Value→H}{v:Value}{d:DataW H}{ps:List MemPlace}(h:DataW.Trod enc P W 0 (λ_=>true) true t v d ps)
  (hone:∀a,(av a).one=true)(hv:v.cells= #[v]):∃a,ok a∧RelV (g0 W hI) (av a) v:=by
 obtain⟨fuel,hf⟩:=h;obtain⟨a,ha,hr⟩:=hrd enc fuel _ _ hf;refine⟨a,ha,?_⟩;have e:(av a).cells=[av a]:=by have:=hone a;generalize av a=x at this;cases x<;>first|rfl|(simp[AV.one]at this;done)
 rw[e,Array.toArray_toList,hv]at hr;exact hr.2 0 _ _ rfl rfl
theorem auF:RelVs g [] []:=⟨rfl,λi x v hx _=>by simp at hx⟩
theorem acY{x:AV}{v:Value}{vs:List Value}(h:RelV g x v)(k:RelVs g xs vs):RelVs g (x::xs) (v::vs):=by
 refine⟨by simp[k.1],λi y u hy hu=>?_⟩;cases i with
 |zero=>simp at hy hu;subst hy;subst hu;exact h
 |succ i=>simp at hy hu;exact k.2 i y u hy hu
end Go.Proofs.YteedncdcbgplfaaGreatDoor
