import Derived.Test.YtmmgbnolccpjoaaGreatDoorS4
import Derived.ProofKit
import Derived.SizedLaws
import Derived.OpenShut
namespace Go.Proofs.YtmmgbnolccpjoaaGreatDoor
open Go.Proofs.Tryz
open Go Go.RowKit
variable{P:Program}{xs:List AV}{W:World}{t:TypeId}{g:G}
def g0(W:World)(hI:Inv W):G:=⟨W,λb o=>W.cell? ⟨b,o,none⟩,λ_=>none,0,hI⟩
theorem sat0(W:World)(hI:Inv W):Sat (g0 W hI) Heap.empty W:={
  below:=Below.refl _ _
  imm _ _ _ h:=h
  box _ _ _ h:=by cases h
  map _ _ h:=by cases h
  raw _ _ h:=by cases h
  own _ _ h:=by cases h
  tok _ _ _ _ h:=by cases h
  tokLt _ h:=by cases h
  sep _ _ _ _ _ _ _ h:=by cases h}
theorem bfL{f:FuncId}{hI:Inv W}{vs:List Value}(h:∀H,ACall P f xs H λx H'=>x= .bool true∧H'=H)(hv:RelVs (g0 W hI) xs vs):
  Calls P f vs.toArray W λe W'=>e= .returned (.bool true)∧Below W.heap.size W W':=
 (h Heap.empty (g0 W hI) vs W hv (sat0 W hI)).mono λe W' ⟨v,he,g',x,H',hle,hr,hs,hx,_⟩=>by
  subst hx;cases hr
  have:=hs.below;rw[hle.base]at this;exact⟨he,this⟩
def Rd(P:Program)(W:World)(hI:Inv W)(t:TypeId){α:Type}(av:α→AV)(ok:α→Prop):Prop:=
 ∀{H:Type}(enc:TypeId×Value→H)(fuel:Nat)(x:DataW H×List MemPlace)(cs:List Value),DataW.trod enc P W 0 (λ_=>true) true fuel t cs=some x→∃a,ok a∧RelCells (g0 W hI) (av a).cells cs.toArray
theorem axR{hI:Inv W}{k:IntKind}(hu:P.underlying t=some (.int k)):Rd P W hI t (AV.int k) (λn=>(Lit.int k n).wf=true):=by
 intro H enc fuel x cs h;obtain⟨n,rfl,_,hw⟩:=DataW.trod_int hu h;exact⟨n,hw,RelCells.one (.int k n)⟩
theorem ciI{hI:Inv W}(hu:P.underlying t=some .bool):Rd P W hI t AV.bool (λ_=>True):=by
 intro H enc fuel x cs h;obtain⟨b,rfl,_⟩:=DataW.trod_bool hu h;exact⟨b,trivial,RelCells.one (.bool b)⟩
theorem bdX{hI:Inv W}(hu:P.underlying t=some .string):Rd P W hI t AV.str (λs=>s.length≤maxLen):=by
 intro H enc fuel x cs h;obtain⟨s,rfl,_,hw⟩:=DataW.trod_string hu h;have e:s=⟨s.data.toList.toArray⟩:=by cases s;rfl
 have hw':s.data.toList.length≤maxLen:=by simpa using hw
 refine⟨s.data.toList,hw',?_⟩;have:=RelV.str (g:=g0 W hI) s.data.toList hw';rw[←e]at this;exact RelCells.one this
theorem RelCells.pieces{ys:List AV}{cs:List Value}{n:Nat}(h1:RelCells g xs (cs.take n).toArray)(h2:RelCells g ys (cs.drop n).toArray):RelCells g (xs++ys) cs.toArray:=by
 have:=h1.append h2;simpa using this
theorem cbY{hI:Inv W}{fs:Array Field}{H:Type}{enc:TypeId×Value→H}{fuel:Nat}{x:DataW H×List MemPlace}{cs:List Value}(hu:P.underlying t=some (.struct fs))
  (h:DataW.trod enc P W 0 (λ_=>true) true fuel t cs=some x):cs.length=P.cellsOf t∧∀(i:Nat)(f:Field),fs[i]?=some f→∀(o n:Nat),f.offset=o→P.cellsOf f.type=n→∀{α:Type}{av:α→AV}{ok:α→Prop},Rd P W hI f.type av ok→∃a,ok a∧RelCells (g0 W hI) (av a).cells ((cs.drop o).take n).toArray:=by
 obtain⟨xs,n,_,_,hl,hxl,hget⟩:=DataW.trod_struct hu h;refine⟨hl,λi f hf o m ho hm α av ok hrd=>?_⟩;subst ho;subst hm;have hi:i<xs.length:=by rw[hxl];exact(cQ.1 hf).1
 have:=hget i f hf;rw[bG hi]at this;exact hrd enc n _ _ this
theorem bmN{hI:Inv W}{α:Type}{av:α→AV}{ok:α→Prop}(hrd:Rd P W hI t av ok){H:Type}{enc:TypeId×Value→H}{v:Value}{d:DataW H}{ps:List MemPlace}(h:DataW.Trod enc P W 0 (λ_=>true) true t v d ps)
  (hone:∀a,(av a).one=true)(hv:v.cells= #[v]):∃a,ok a∧RelV (g0 W hI) (av a) v:=by
 obtain⟨fuel,hf⟩:=h;obtain⟨a,ha,hr⟩:=hrd enc fuel _ _ hf;refine⟨a,ha,?_⟩;have e:(av a).cells=[av a]:=by have:=hone a;generalize av a=x at this;cases x<;>first|rfl|(simp[AV.one]at this;done)
 rw[e,Array.toArray_toList,hv]at hr;exact hr.2 0 _ _ rfl rfl
theorem bvT:RelVs g [] []:=⟨rfl,λi x v hx _=>by simp at hx⟩
theorem akE{x:AV}{v:Value}{vs:List Value}(h:RelV g x v)(k:RelVs g xs vs):RelVs g (x::xs) (v::vs):=by
 refine⟨by simp[k.1],λi y u hy hu=>?_⟩;cases i with
 |zero=>simp at hy hu;subst hy;subst hu;exact h
 |succ i=>simp at hy hu;exact k.2 i y u hy hu
end Go.Proofs.YtmmgbnolccpjoaaGreatDoor
