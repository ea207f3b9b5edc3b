import Derived.Test.YteedncdcbgplfaaGreatDoorS4
import Derived.ProofKit
import Derived.SizedLaws
import Derived.OpenShut
namespace Go.Proofs.YteedncdcbgplfaaGreatDoor
open Go.Proofs.Tryz
open Go Go.RowKit
variable{P:Program}{W:World}
def g0(W:World)(hI:Inv W):G:=⟨W,λb o=>W.cell? ⟨b,o,none⟩,λ_=>none,0,hI⟩
theorem sat0(W:World)(hI:Inv W):Sat (g0 W hI) Heap.empty W:={
  below:=Below.refl _ _
  imm _ _ _ h:=h
  box _ _ _ h:=by cases h
  map _ _ h:=by cases h
  raw _ _ h:=by cases h
  own _ _ h:=by cases h
  tok _ _ _ _ h:=by cases h
  tokLt _ h:=by cases h
  sep _ _ _ _ _ _ _ h:=by cases h}
theorem bcF{f:FuncId}{xs:List AV}{hI:Inv W}{vs:List Value}(h:∀H,ACall P f xs H λx H'=>x= .bool true∧H'=H)(hv:RelVs (g0 W hI) xs vs):
  Calls P f vs.toArray W λe W'=>e= .returned (.bool true)∧Below W.heap.size W W':=
 (h Heap.empty (g0 W hI) vs W hv (sat0 W hI)).mono λe W' ⟨v,he,g',x,H',hle,hr,hs,hx,_⟩=>by
  subst hx;cases hr
  have:=hs.below;rw[hle.base]at this;exact⟨he,this⟩
def Rd(P:Program)(W:World)(hI:Inv W)(t:TypeId){α:Type}(av:α→AV)(ok:α→Prop):Prop:=
 ∀{H:Type}(enc:TypeId×Value→H)(fuel:Nat)(x:DataW H×List MemPlace)(cs:List Value),DataW.trod enc P W 0 (λ_=>true) true fuel t cs=some x→∃a,ok a∧RelCells (g0 W hI) (av a).cells cs.toArray
theorem avG{hI:Inv W}{t:TypeId}{k:IntKind}(hu:P.underlying t=some (.int k)):Rd P W hI t (AV.int k) (λn=>(Lit.int k n).wf=true):=by
 intro H enc fuel x cs h;obtain⟨n,rfl,_,hw⟩:=DataW.trod_int hu h;exact⟨n,hw,RelCells.one (.int k n)⟩
theorem avH{hI:Inv W}{t:TypeId}{α:Type}{av:α→AV}{ok:α→Prop}(hrd:Rd P W hI t av ok){H:Type}{enc:TypeId×Value→H}{v:Value}{d:DataW H}{ps:List MemPlace}(h:DataW.Trod enc P W 0 (λ_=>true) true t v d ps)
  (hone:∀a,(av a).one=true)(hv:v.cells= #[v]):∃a,ok a∧RelV (g0 W hI) (av a) v:=by
 obtain⟨fuel,hf⟩:=h;obtain⟨a,ha,hr⟩:=hrd enc fuel _ _ hf;refine⟨a,ha,?_⟩;have e:(av a).cells=[av a]:=by have:=hone a;generalize av a=x at this;cases x<;>first|rfl|(simp[AV.one]at this;done)
 rw[e,Array.toArray_toList,hv]at hr;exact hr.2 0 _ _ rfl rfl
theorem bsI{g:G}:RelVs g [] []:=⟨rfl,λi x v hx _=>by simp at hx⟩
theorem anS{g:G}{x:AV}{v:Value}{xs:List AV}{vs:List Value}(h:RelV g x v)(k:RelVs g xs vs):RelVs g (x::xs) (v::vs):=by
 refine⟨by simp[k.1],λi y u hy hu=>?_⟩;cases i with
 |zero=>simp at hy hu;subst hy;subst hu;exact h
 |succ i=>simp at hy hu;exact k.2 i y u hy hu
end Go.Proofs.YteedncdcbgplfaaGreatDoor
