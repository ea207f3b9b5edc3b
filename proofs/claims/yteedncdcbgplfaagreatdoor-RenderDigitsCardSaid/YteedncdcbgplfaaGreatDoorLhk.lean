import Derived.Test.YteedncdcbgplfaaGreatDoorInk
import Derived.LaidLaws
import Derived.OpenShut
namespace Go.Proofs.YteedncdcbgplfaaGreatDoor
open Go.Proofs.Tryz
open Go Go.RowKit
variable{H:Type}{enc:TypeId×Value→H}
theorem bjR{a:Assume}{C:Checked}{os:Os}{f:FuncId}{fn:Func}{s:ChangeSpec}{conds:List PathCond}{apart fresh handsOn again:Bool}{X:World→Array Value→Prop}
  (hX:∀(w w':World)(args:Array Value),w.heap=w'.heap→X w args→X w' args)
  (own:ownKnob C.prog.godebug=none)(started:os.Started)(noInit:C.prog.inits.idxOf? f=none)(hfn:C.prog.funcs[f]?=some fn)
  (witness:∃(w:World)(tape:Tape)(i:Input),w.os=os∧(w.forCall tape i).Shaped C.prog∧i.vars=[]∧Input.okWide C.prog (w.forCall tape i) .any w.heap.size f i∧
    ((s.pre enc C.prog fn conds apart (w.forCall tape i).memory i.args∧X (w.forCall tape i).memory i.args)∧sizedMet enc C.prog fn (OpenSpec.ofChange s) apart (w.forCall tape i).memory i.args)∧a.holds C.prog (lone (Frame.enter C.prog f i.args .normal) [] (w.forCall tape i)))
  (contract:∀(W:World)(base:Nat)(args:Array Value)(ds gs:List (DataW H))(before:List MemPlace),W.ShapedOpen C.prog→
    (∀(j:Nat) t v,fn.params[j]?=some t→args[j]?=some v→Value.okWide C.prog W .any base t v)→
    DataW.Whole enc C.prog fn.params.toList s.vars apart W args.toList ds gs before→
    conds.all (PathCond.test C.prog ⟨fn.params.toList,ds,s.plain.varTypes C.prog,gs⟩)=true→
    (DataW.weightsEach C.prog (fn.params.toList++s.plain.varTypes C.prog) (ds++gs)).all (·≤reachBytes)=true→X W args→
    Calls C.prog f args W λe W'=>∃v,e= .returned v∧s.post enc C.prog fn apart fresh handsOn again W args v W'):
  ReturnsInHanded a C os f .any (λw args=>(s.pre enc C.prog fn conds apart w args∧X w args)∧sizedMet enc C.prog fn (OpenSpec.ofChange s) apart w args) (s.post enc C.prog fn apart fresh handsOn again):=by
 refine returnsInHanded_of_calls own started noInit witness ?_;intro w tape i _ hsh _ hok hpre _;obtain⟨_,_,_,fn',hfn',_,_,_,_,hval⟩:=hok;have e:fn'=fn:=Option.some.inj (hfn'.symm.trans hfn);subst e;obtain⟨⟨⟨ds,gs,before,hw,hc⟩,hx⟩,hz⟩:=hpre;have hw':=DataW.Whole.of_heap (w':=w.forCall tape i) aD hw;refine(contract (w.forCall tape i) w.heap.size i.args ds gs before hsh hval hw' hc (hz.weights hw) (hX _ _ _ aD hx)).mono λe W' ⟨v,he,hp⟩=>?_;subst he;exact ChangeSpec.post_blind hp
/-! ### plain variables as data -/
def azD(P:Program):List Field→Nat→Option Nat
 | [],o=>some o
 |f::r,o=>if f.offset=o then azD P r (o+P.cellsOf f.type)else none
def bbN(P:Program):Nat→TypeId→Bool
 |0,_=>false
 |n+1,t=>match P.underlying t with
  |some (.int _)|some .string|some .bool=>true
  |some (.array N e)=>bbN P n e&&Nat.beq (P.cellsOf t) (N*P.cellsOf e)
  |some (.struct fs)=>fs.toList.all (λf=>bbN P n f.type)&&(match azD P fs.toList 0 with|some k=>Nat.beq k (P.cellsOf t)|none=>false)
  |_=>false
theorem bcZ{xs ys cs:List Value}{n:Nat}(h1:cs.take n=xs)(h2:cs.drop n=ys):cs=xs++ys:=by rw[←h1,←h2,cK]
variable{P:Program}{W:World}
theorem awH{n m e k:Nat}{cs:List Value}{fl:DataW Unit→Option (List Value)}(hp:P.cellsOf e=k)
  (ih:∀cs d p,DataW.trod (λ_=>()) P W 0 (λ_=>true) false m e cs=some (d,p)→∀xs,fl d=some xs→cs=xs):
  ∀(l:List (DataW Unit×List MemPlace))(i:Nat),i+l.length=n→cs.length=n*k→(∀j,j<l.length→DataW.trod (λ_=>()) P W 0 (λ_=>true) false m e ((cs.drop ((i+j)*k)).take k)=l[j]?)→
   ∀xs,(l.map (·.1)).foldr (λd r=>match fl d,r with|some x,some y=>some (x++y)|_,_=>none) (some [])=some xs→cs.drop (i*k)=xs
 | [],i,hi,hl,_,xs,hx=>by
  simp at hx hi;subst hx;subst hi;exact dI.1 (by simp[hl])
 |a::l,i,hi,hl,hg,xs,hx=>by
  simp only[dX,List.foldr_cons]at hx;split at hx
  ·rename_i x y hx1 hx2
   cases hx
   simp only[aW]at hi;have h0:=hg 0 aF;simp only[cA,List.getElem?_cons_zero]at h0;have r1:=ih _ _ _ h0 _ hx1;have r2:=awH (n:=n) (m:=m) (e:=e) (k:=k) (cs:=cs) hp ih l (i+1) aA hl (λj hj=>by
     have:=hg (j+1) aG;simp only[fT]at this;rw[←this];congr 4;omega) y hx2
   refine bcZ (n:=k) r1 ?_;rw[gT];rw[show i*k+k=(i+1)*k by rw[bY,cQ]];exact r2
  cases hx
theorem asP{m:Nat}{cs:List Value}{fl:DataW Unit→Option (List Value)}:
  ∀(fs:List Field)(l:List (DataW Unit×List MemPlace))(o:Nat),fs.length=l.length→azD P fs o=some cs.length→
   (∀f,f∈fs→∀cs d p,DataW.trod (λ_=>()) P W 0 (λ_=>true) false m f.type cs=some (d,p)→∀xs,fl d=some xs→cs=xs)→
   (∀(j:Nat)(f:Field),fs[j]?=some f→DataW.trod (λ_=>()) P W 0 (λ_=>true) false m f.type ((cs.drop f.offset).take (P.cellsOf f.type))=l[j]?)→
   ∀xs,(l.map (·.1)).foldr (λd r=>match fl d,r with|some x,some y=>some (x++y)|_,_=>none) (some [])=some xs→cs.drop o=xs
 | [],l,o,hl,hc,_,_,xs,hx=>by
  have hl':l=[]:=dI.1 hl.symm;subst hl';simp at hx;subst hx;have hc:o=cs.length:=Option.some.inj hc;exact dI.1 (by simp[hc])
 |f::fs,[],o,hl,_,_,_,xs,hx=>by simp at hl
 |f::fs,a::l,o,hl,hc,ih,hg,xs,hx=>by
  unfold azD at hc;split at hc
  ·rename_i ho
   simp only[dX,List.foldr_cons]at hx;split at hx
   ·rename_i x y hx1 hx2
    cases hx
    have h0:=hg 0 f rfl;simp only[List.getElem?_cons_zero]at h0;have r1:=ih f aF _ _ _ h0 _ hx1;have r2:=asP (m:=m) (cs:=cs) fs l (o+P.cellsOf f.type) (by simpa using hl) hc (λf hf=>ih f (by simp[hf])) (λj f hf=>by
      have:=hg (j+1) f (by simpa using hf);simpa using this) y hx2
    rw[ho]at r1;refine bcZ (n:=P.cellsOf f.type) r1 ?_;rw[gT];exact r2
   cases hx
  cases hc
theorem ajD:∀(n fuel:Nat)(t:TypeId)(cs:List Value)(d:DataW Unit)(p:List MemPlace),bbN P n t=true→DataW.trod (λ_=>()) P W 0 (λ_=>true) false fuel t cs=some (d,p)→∀xs,agB n d=some xs→cs=xs
 |0,_,_,_,_,_,ht,_,_,_=>by cases ht
 |n+1,fuel,t,cs,d,p,ht,h,xs,hx=>by
  unfold bbN at ht;split at ht
  ·rename_i k hu
   obtain⟨m,rfl,e,_⟩:=DataW.trod_int hu h;cases e;cases hx
   rfl
  ·rename_i hu
   obtain⟨s,rfl,e,hs⟩:=DataW.trod_string hu h;cases e;cases hx
   rfl
  ·rename_i hu
   obtain⟨b,rfl,e⟩:=DataW.trod_bool hu h;cases e;cases hx
   rfl
  ·rename_i N e hu
   simp only[bN]at ht;obtain⟨l,m,_,e1,hl,hn,hg⟩:=DataW.trod_array hu h;cases e1
   have ht2:=cR ht.2;have:=awH (n:=N) (m:=m) (e:=e) (k:=P.cellsOf e) (cs:=cs) (fl:=agB n) rfl (λcs d p hd xs hxs=>ajD n m e cs d p ht.1 hd xs hxs) l 0 aA (by rw[hl,ht2]) (λj hj=>by
     rw[bZ];exact hg j aA) xs hx
   simpa using this
  ·rename_i fs hu
   simp only[bN]at ht;obtain⟨l,m,_,e1,hl,hn,hg⟩:=DataW.trod_struct hu h;cases e1
   have hc:=ht.2;split at hc<;>first|(cases hc;done)|skip
   rename_i k hk
   have hk':=cR hc;have:=asP (m:=m) (cs:=cs) (fl:=agB n) (P:=P) (W:=W) fs.toList l 0 (by simp[hn]) (by rw[hk,hl,hk']) (λf hf cs d p hd xs hxs=>ajD n m f.type cs d p (by
       have:=eD.1 ht.1 f hf;exact this) hd xs hxs) (λj f hf=>hg j f (by simpa using hf)) xs hx
   simpa using this
  cases ht
theorem acL{n:String}{d:DataW Unit}{r:List (String×DataW Unit)}{ps:List MemPlace}(h:DataW.LaidVars P W ((n,d)::r) ps){b:Nat}(hb:P.globalNamed n=some b){t:TypeId}(ht:(P.globals[b]?).map (·.type)=some t):
  (∃fuel p vs T fz,W.heap[b]?=some (.cells vs T fz)∧DataW.trod (λ_=>()) P W 0 (λ_=>true) false fuel t vs.toList=some (d,p))∧∃q,DataW.LaidVars P W r q:=by
 obtain⟨g',t',cs,fuel,p,q,h1,h2,h3,h4,h5,_⟩:=h;cases hb.symm.trans h1
 cases ht.symm.trans h2
 refine⟨?_,q,h5⟩;unfold World.var? at h3;rw[h1]at h3;simp only[Option.bind_some]at h3;split at h3
 ·rename_i cs' T fz hh
  cases h3
  exact⟨fuel,p,cs,T,fz,hh,h4⟩
 cases h3
theorem adU{n:String}{d:DataW Unit}{r:List (String×DataW Unit)}{ps:List MemPlace}(h:DataW.LaidVars P W ((n,d)::r) ps){b:Nat}(hb:P.globalNamed n=some b){t:TypeId}(ht:(P.globals[b]?).map (·.type)=some t)(m:Nat)(hp:bbN P m t=true){xs:List Value}(hx:agB m d=some xs):
  (∃T fz,W.heap[b]?=some (.cells xs.toArray T fz))∧∃q,DataW.LaidVars P W r q:=by
 obtain⟨⟨fuel,p,vs,T,fz,h1,h2⟩,k⟩:=acL h hb ht;have e:vs=xs.toArray:=by rw[←ajD m fuel t vs.toList d p hp h2 xs hx]
 exact⟨⟨T,fz,by rw[h1,e]⟩,k⟩
end Go.Proofs.YteedncdcbgplfaaGreatDoor
