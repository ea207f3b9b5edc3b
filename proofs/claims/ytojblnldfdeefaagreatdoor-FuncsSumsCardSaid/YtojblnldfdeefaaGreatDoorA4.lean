/-
  The frame: Sr.
-/
import Derived.Test.YtojblnldfdeefaaGreatDoorA3
import Derived.ProofKit
import Derived.SizedLaws
import Derived.OpenShut
import Derived.Defers
namespace Go.Proofs.YtojblnldfdeefaaGreatDoor
open Go Go.RowKit
section
def g0(W:World)(hI:Inv W):G:=⟨W,λb o=>W.cell? ⟨b,o,none⟩,λ_=>none,0,hI⟩
theorem sat0(W:World)(hI:Inv W):Sat (g0 W hI) Heap.empty W:={
  below:=Below.refl _ _
  imm _ _ _ h:=h
  box _ _ _ h:=by cases h
  map _ _ h:=by cases h
  raw _ _ h:=by cases h
  own _ _ h:=by cases h
  tok _ _ _ _ h:=by cases h
  tokLt _ h:=by cases h
  sep _ _ _ _ _ _ _ h:=by cases h}
theorem law_calls{P:Program}{f:FuncId}{xs:List AV}{W:World}{hI:Inv W}{vs:List Value}(h:∀H,ACall P f xs H λx H'=>x= .bool true∧H'=H)(hv:RelVs (g0 W hI) xs vs):
    Calls P f vs.toArray W λe W'=>e= .returned (.bool true)∧Below W.heap.size W W':=
  (h Heap.empty (g0 W hI) vs W hv (sat0 W hI)).mono λe W' ⟨v,he,g',x,H',hle,hr,hs,hx,_⟩=>by
    subst hx;cases hr
    have:=hs.below;rw[hle.base]at this;exact⟨he,this⟩
def Rd(P:Program)(W:World)(hI:Inv W)(t:TypeId){α:Type}(av:α→AV)(ok:α→Prop):Prop:=
  ∀{H:Type}(enc:TypeId×Value→H)(fuel:Nat)(x:DataW H×List MemPlace)(cs:List Value),DataW.trod enc P W 0 (λ_=>true) true fuel t cs=some x→∃a,ok a∧RelCells (g0 W hI) (av a).cells cs.toArray
theorem rd_int{P:Program}{W:World}{hI:Inv W}{t:TypeId}{k:IntKind}(hu:P.underlying t=some (.int k)):Rd P W hI t (AV.int k) (λn=>(Lit.int k n).wf=true):=by
  intro H enc fuel x cs h;obtain⟨n,rfl,_,hw⟩:=DataW.trod_int hu h;exact⟨n,hw,RelCells.one (.int k n)⟩
theorem cells_get{W:World}{a:Addr}{n:Nat}{cs:List Value}(h:W.cells? 0 a n=some cs):cs.length=n∧∀i,i<n→∃v,cs[i]?=some v∧W.cell? (a.add i)=some v:=by
  unfold World.cells? at h;rw[if_pos (Nat.zero_le _)]at h;have hl:cs.length=n:=by simpa using mapM_some_length h
  refine⟨hl,λi hi=>?_⟩;have:=mapM_some_get h i i (by simp[hi]);exact⟨cs[i]'(by omega),List.getElem?_eq_getElem (by omega),by rw[this,List.getElem?_eq_getElem (by omega)]⟩
theorem rd_slice{P:Program}{W:World}{hI:Inv W}{t e:TypeId}{sz:Nat}{α:Type}{av:α→AV}{ok:α→Prop}(hu:P.underlying t=some (.slice e))(hsz:P.cellsOf e=sz)(hpos:0<sz)(hrow:∀a,(av a).row sz)(he:Rd P W hI e av ok):
    Rd P W hI t (λl:List α=>.slice sz (l.map av) .shared) (λl=>l.length≤maxLen∧∀a,a∈l→ok a):=by
  intro H enc fuel x cs h;rcases DataW.trod_slice hu h with⟨rfl,_⟩|⟨a,len,cap,elems,rest,n,_,rfl,_,_,hlc,hcap,hel,hget,hrest,_⟩
  · exact⟨[],⟨Nat.zero_le _,λa ha=>by simp at ha⟩,RelCells.one (.nilSlice _ _)⟩
  rw[hsz]at hget hrest;by_cases hc0:cap=0
  · have hl0:len=0:=by omega
    subst hc0;subst hl0;exact⟨[],⟨Nat.zero_le _,λa ha=>by simp at ha⟩,RelCells.one (.voidSlice _ _)⟩
  
  obtain⟨b,off,spot⟩:=a;have hspot:spot=none:=by
    rcases Nat.eq_zero_or_pos len with h0|h0
    · obtain⟨hr1,hr2⟩:=hrest rfl;have hr:=hr2 0 (by omega);rw[List.getElem?_eq_getElem (by omega:0<rest.length)]at hr;simp only[Option.bind_eq_some_iff]at hr;obtain⟨c0,hc0',_⟩:=hr;obtain⟨_,hcl⟩:=cells_get hc0';obtain⟨v,_,hv⟩:=hcl 0 hpos;subst h0;simp only[Nat.zero_add,Nat.zero_mul]at hv;have:=World.cell?_spot hv;simpa[Addr.add]using this
    have hr:=hget 0 h0;rw[List.getElem?_eq_getElem (by omega:0<elems.length)]at hr;simp only[Option.bind_eq_some_iff]at hr;obtain⟨c0,hc0',_⟩:=hr;obtain⟨_,hcl⟩:=cells_get hc0';obtain⟨v,_,hv⟩:=hcl 0 hpos;simp only[Nat.zero_mul]at hv;have:=World.cell?_spot hv;simpa[Addr.add]using this
  subst hspot;have key:∀i:Fin len,∃a,ok a∧∀j c,(av a).cells[j]?=some c→∃v,W.cell? ⟨b,off+(i.1*sz+j),none⟩=some v∧RelV (g0 W hI) c v:=by
    intro i;have hr:=hget i.1 i.2;rw[List.getElem?_eq_getElem (by omega:i.1<elems.length)]at hr;simp only[Option.bind_eq_some_iff]at hr;obtain⟨ci,hci,hti⟩:=hr;obtain⟨a,ha,hrel⟩:=he enc n _ ci hti;obtain⟨hcil,hcl⟩:=cells_get hci;refine⟨a,ha,λj c hc=>?_⟩;obtain⟨v,hv,hrv⟩:=hrel.at hc;have hj:j<sz:=by have:=(List.getElem?_eq_some_iff.1 hc).1;rw[(hrow a).1]at this;exact this
    obtain⟨u,hu',hcu⟩:=hcl j hj;have:u=v:=by simpa[hu']using hv
    subst this;rw[Addr.add_off,Addr.add_off]at hcu;rw[←Nat.add_assoc];exact⟨u,hcu,hrv⟩
  classical
  let f:Fin len→α:=λi=>(key i).choose
  have hf:∀i,ok (f i)∧∀j c,(av (f i)).cells[j]?=some c→∃v,W.cell? ⟨b,off+(i.1*sz+j),none⟩=some v∧RelV (g0 W hI) c v:=λi=>(key i).choose_spec;refine⟨List.ofFn f,⟨by simp;omega,λa ha=>?_⟩,?_⟩
  · obtain⟨i,rfl⟩:=List.mem_ofFn.1 ha;exact(hf i).1
  have hlen:((List.ofFn f).map av).length=len:=by simp
  have:=RelV.slice (g:=g0 W hI) sz ((List.ofFn f).map av) .shared b off cap (λi=>(W.cell? ⟨b,off+i,none⟩).getD undef) (λx hx=>by
      obtain⟨a,_,rfl⟩:=List.mem_map.1 hx;exact hrow a)
    (λi hi=>by
      rw[hlen]at hi;have hq:i/sz<len:=Nat.div_lt_of_lt_mul (by rw[Nat.mul_comm];exact hi);have hm:i%sz<sz:=Nat.mod_lt _ hpos;have hcl:=(hrow (f ⟨i/sz,hq⟩)).1;obtain⟨v,hv,_⟩:=(hf ⟨i/sz,hq⟩).2 (i%sz) _ (List.getElem?_eq_getElem (by omega));simp only at hv;rw[show i/sz*sz+i%sz=i by rw[Nat.mul_comm];exact Nat.div_add_mod _ _]at hv;show W.cell? ⟨b,off+i,none⟩=_;rw[hv];rfl)
    (λi j x c hx hc=>by
      have hi:i<len:=by have:=(List.getElem?_eq_some_iff.1 hx).1;omega
      have hx':x=av (f ⟨i,hi⟩):=by simpa[hi]using hx.symm
      subst hx';obtain⟨v,hv,hrv⟩:=(hf ⟨i,hi⟩).2 j c hc;simp only at hv;rw[hv];exact hrv)
    (by rw[hlen];exact hlc) hcap trivial
  rw[hlen]at this;exact RelCells.one this
theorem rd_arg{P:Program}{W:World}{hI:Inv W}{t:TypeId}{α:Type}{av:α→AV}{ok:α→Prop}(hrd:Rd P W hI t av ok){H:Type}{enc:TypeId×Value→H}{v:Value}{d:DataW H}{ps:List MemPlace}(h:DataW.Trod enc P W 0 (λ_=>true) true t v d ps)
    (hone:∀a,(av a).one=true)(hv:v.cells= #[v]):∃a,ok a∧RelV (g0 W hI) (av a) v:=by
  obtain⟨fuel,hf⟩:=h;obtain⟨a,ha,hr⟩:=hrd enc fuel _ _ hf;refine⟨a,ha,?_⟩;have e:(av a).cells=[av a]:=by have:=hone a;generalize av a=x at this;cases x<;>first|rfl|(simp[AV.one]at this;done)
  rw[e,Array.toArray_toList,hv]at hr;exact hr.2 0 _ _ rfl rfl
theorem relvs_n{g:G}:RelVs g [] []:=⟨rfl,λi x v hx _=>by simp at hx⟩
theorem relvs_c{g:G}{x:AV}{v:Value}{xs:List AV}{vs:List Value}(h:RelV g x v)(k:RelVs g xs vs):RelVs g (x::xs) (v::vs):=by
  refine⟨by simp[k.1],λi y u hy hu=>?_⟩;cases i with
  |zero=>simp at hy hu;subst hy;subst hu;exact h
  |succ i=>simp at hy hu;exact k.2 i y u hy hu
end
end Go.Proofs.YtojblnldfdeefaaGreatDoor
-- shim
namespace Go.Proofs.YtojblnldfdeefaaGreatDoor
open Go Go.RowKit
section
section
variable{P:Program}{dst:Option Tmp}{ty:TypeId}{pos:String}{af:Array Go.Edge}{gd:Option (Nat×Bool)}{env:Env}{H:Heap}
def solid:TypeDesc→Bool
  | .interface _=>false
  |_=>true
theorem pure_iface{T:TypeId}{x:Operand}{y:AV}{d:TypeDesc}(hu:P.underlying T=some d)(hd:solid d=true)(hx:Ev env x y):APure P ⟨dst,.makeInterface T x,ty,pos,af,gd⟩ env (.iface T y):=by
  intro g n a ka;obtain⟨v,he,hv⟩:=ev1 hx ka;refine⟨_,.iface T _ _ hv,λw _=>?_⟩;have hun:∀w,(underlying T).run P w= .ok d w:=λw=>run_underlying hu w;cases d<;>first|(cases hd;done)|(simp[execOp,Instr.makeInterface,he,hun])
end
end
section
section
variable{P:Program}{env:Env}{H:Heap}{dst:Option Tmp}{ty:TypeId}{pos:String}{af:Array Edge}{gd:Option (Nat×Bool)}
end
section
variable{P:Program}{n:Fr}{Q:Exit→Env→Heap→Prop}{env:Env}{H:Heap}
theorem Sat.rebox{g:G}{H:Heap}{w:World}(h:Sat g H w){b:Nat}{T:TypeId}{cs cs':List AV}(hb:H.objs b=some (.box T cs))(hw:∀vs,RelCells g cs vs→RelCells g cs' vs):Sat g (H.set b (.box T cs')) w:={
  below:=h.below
  imm:=h.imm
  box b' T' cs2 hb':=by
    by_cases e:b'=b
    · subst e;simp only[Heap.objs_set_same,Option.some.injEq,AObj.box.injEq]at hb';obtain⟨rfl,rfl⟩:=hb';obtain⟨vs,hv,hr⟩:=h.box _ _ _ hb;exact⟨vs,hv,hw vs hr⟩
    rw[Heap.objs_set_ne _ _ e]at hb';exact h.box _ _ _ hb'
  map b' es hb':=by
    by_cases e:b'=b
    · subst e;simp at hb'
    rw[Heap.objs_set_ne _ _ e]at hb';exact h.map _ _ hb'
  raw b' o hb':=by
    by_cases e:b'=b
    · subst e;simp at hb'
    rw[Heap.objs_set_ne _ _ e]at hb';exact h.raw _ _ hb'
  own b' x hb':=by
    by_cases e:b'=b
    · subst e;exact h.own _ _ hb
    rw[Heap.objs_set_ne _ _ e]at hb';exact h.own _ _ hb'
  tok t b' lo n ht hk hn:=by
    obtain⟨h1,h2,h3,h4⟩:=h.tok t b' lo n ht hk hn;refine⟨h1,?_,h3,h4⟩;have e:b'≠b:=by rintro rfl;rw[h2]at hb;cases hb
    rw[Heap.objs_set_ne _ _ e];exact h2
  tokLt:=h.tokLt
  sep:=h.sep}
theorem AWP.rebox{c:Code}{b:Nat}{T:TypeId}{cs cs':List AV}(hb:H.objs b=some (.box T cs))(hw:∀g vs,RelCells g cs vs→RelCells g cs' vs)(h:AWP P n c Q env (H.set b (.box T cs'))):AWP P n c Q env H:=
  λg a w k s=>h g a w k (s.rebox hb (hw g))
theorem RelCells.weak{g:G}{cs cs':List AV}{vs:Array Value}(h:RelCells g cs vs)(hl:cs'.length=cs.length)(hw:∀(i:Nat) c c',cs[i]?=some c→cs'[i]?=some c'→Weak c c'):RelCells g cs' vs:=by
  refine⟨hl.trans h.1,λi c v hc hv=>?_⟩;have hi:i<cs.length:=by rw[←hl];exact(List.getElem?_eq_some_iff.1 hc).1
  exact(hw i _ c (List.getElem?_eq_getElem hi) hc).rel (h.2 i _ v (List.getElem?_eq_getElem hi) hv)
end
/-! ### calls that are put off -/
section
variable{P:Program}
def LiftD(g:G)(sz:Nat)(Q:List Deferred→Exit→Env→Heap→Prop):Exit→Act→World→Prop:=
  λe a w=>∃g' env H ds,g.le g'∧RelAct g' ⟨sz,ds⟩ env a∧Sat g' H w∧Q ds e env H
theorem LiftD.up{g g':G}(h:g.le g'){sz:Nat}{Q:List Deferred→Exit→Env→Heap→Prop}{e:Exit}{a:Act}{w:World}(k:LiftD g' sz Q e a w):LiftD g sz Q e a w:=
  let⟨g'',env,H,ds,h1,h2⟩:=k;⟨g'',env,H,ds,h.trans h1,h2⟩
def AWPD(P:Program)(n:Fr)(c:Code)(Q:List Deferred→Exit→Env→Heap→Prop)(env:Env)(H:Heap):Prop:=
  ∀g a w,RelAct g n env a→Sat g H w→c.wp P (LiftD g n.size Q) a w
variable{n:Fr}{Q:List Deferred→Exit→Env→Heap→Prop}{env:Env}{H:Heap}
theorem AWPD.of{c:Code}(h:AWP P n c (Q n.defs) env H):AWPD P n c Q env H:=
  λg a w k s=>wp_mono (h g a w k s) λ_ _ _ ⟨g',e,H',h1,h2,h3,h4⟩=>⟨g',e,H',n.defs,h1,h2,h3,h4⟩
theorem AWPD.seq{x y:Code}(h:AWP P n x (Next.q (AWPD P n y Q) (Q n.defs)) env H):AWPD P n (.seq x y) Q env H:=by
  intro g a w k s;refine wp_seq (wp_mono (h g a w k s) ?_);rintro e a' w' ⟨g',env',H',hle,hr,hs,hq⟩;cases e with
  |normal=>exact wp_mono (hq g' a' w' hr hs) λ_ _ _ h=>h.up hle
  |_=>exact⟨g',env',H',n.defs,hle,hr,hs,hq⟩
end
end
end Go.Proofs.YtojblnldfdeefaaGreatDoor
namespace Go.Proofs.YtojblnldfdeefaaGreatDoor
open Go Go.RowKit
def UndT(t:TypeId):Type:={d:TypeDesc//Tryz.prog.underlying t=some d}
def SzoT(t:TypeId):Type:={k:Nat//∀w,(sizeOf t).run Tryz.prog w= .ok k w}
def AggT(t:TypeId):Type:={b:Bool//∀w,(isAgg t).run Tryz.prog w= .ok b w}
theorem und{t:TypeId}[i:Inhabited (UndT t)]:Tryz.prog.underlying t=some i.default.1:=i.default.2
theorem szo{t:TypeId}[i:Inhabited (SzoT t)]:∀w,(sizeOf t).run Tryz.prog w= .ok i.default.1 w:=i.default.2
theorem agg{t:TypeId}[i:Inhabited (AggT t)]:∀w,(isAgg t).run Tryz.prog w= .ok i.default.1 w:=i.default.2
instance:Inhabited (UndT 3):=⟨⟨_,Tryz.underlying3⟩⟩
instance:Inhabited (UndT 5):=⟨⟨_,Tryz.underlying5⟩⟩
instance:Inhabited (UndT 9):=⟨⟨_,Tryz.underlying9⟩⟩
instance:Inhabited (UndT 268):=⟨⟨_,Tryz.underlying268⟩⟩
instance:Inhabited (UndT 270):=⟨⟨_,Tryz.underlying270⟩⟩
instance:Inhabited (UndT 25):=⟨⟨_,Tryz.underlying25⟩⟩
instance:Inhabited (UndT 30):=⟨⟨_,Tryz.underlying30⟩⟩
instance:Inhabited (UndT 32):=⟨⟨_,Tryz.underlying32⟩⟩
instance:Inhabited (UndT 72):=⟨⟨_,Tryz.underlying72⟩⟩
instance:Inhabited (UndT 332):=⟨⟨_,Tryz.underlying332⟩⟩
instance:Inhabited (UndT 334):=⟨⟨_,Tryz.underlying334⟩⟩
instance:Inhabited (UndT 379):=⟨⟨_,Tryz.underlying379⟩⟩
instance:Inhabited (UndT 134):=⟨⟨_,Tryz.underlying134⟩⟩
instance:Inhabited (UndT 337):=⟨⟨_,Tryz.underlying337⟩⟩
instance:Inhabited (UndT 339):=⟨⟨_,Tryz.underlying339⟩⟩
instance:Inhabited (UndT 73):=⟨⟨_,Tryz.underlying73⟩⟩
instance:Inhabited (UndT 54):=⟨⟨_,Tryz.underlying54⟩⟩
instance:Inhabited (UndT 325):=⟨⟨_,Tryz.underlying325⟩⟩
instance:Inhabited (UndT 158):=⟨⟨_,Tryz.underlying158⟩⟩
instance:Inhabited (UndT 381):=⟨⟨_,Tryz.underlying381⟩⟩
instance:Inhabited (UndT 384):=⟨⟨_,Tryz.underlying384⟩⟩
instance:Inhabited (UndT 252):=⟨⟨_,Tryz.underlying252⟩⟩
instance:Inhabited (UndT 398):=⟨⟨_,Tryz.underlying398⟩⟩
instance:Inhabited (UndT 402):=⟨⟨_,Tryz.underlying402⟩⟩
instance:Inhabited (UndT 38):=⟨⟨_,Tryz.underlying38⟩⟩
instance:Inhabited (UndT 81):=⟨⟨_,Tryz.underlying81⟩⟩
instance:Inhabited (UndT 208):=⟨⟨_,Tryz.underlying208⟩⟩
instance:Inhabited (UndT 433):=⟨⟨_,Tryz.underlying433⟩⟩
instance:Inhabited (UndT 412):=⟨⟨_,Tryz.underlying412⟩⟩
instance:Inhabited (SzoT 3):=⟨⟨_,Tryz.sizeOf3⟩⟩
instance:Inhabited (SzoT 4):=⟨⟨_,Tryz.sizeOf4⟩⟩
instance:Inhabited (SzoT 9):=⟨⟨_,Tryz.sizeOf9⟩⟩
instance:Inhabited (SzoT 268):=⟨⟨_,Tryz.sizeOf268⟩⟩
instance:Inhabited (SzoT 270):=⟨⟨_,Tryz.sizeOf270⟩⟩
instance:Inhabited (SzoT 30):=⟨⟨_,Tryz.sizeOf30⟩⟩
instance:Inhabited (SzoT 32):=⟨⟨_,Tryz.sizeOf32⟩⟩
instance:Inhabited (SzoT 72):=⟨⟨_,Tryz.sizeOf72⟩⟩
instance:Inhabited (SzoT 33):=⟨⟨_,Tryz.sizeOf33⟩⟩
instance:Inhabited (SzoT 332):=⟨⟨_,Tryz.sizeOf332⟩⟩
instance:Inhabited (SzoT 334):=⟨⟨_,Tryz.sizeOf334⟩⟩
instance:Inhabited (SzoT 379):=⟨⟨_,Tryz.sizeOf379⟩⟩
instance:Inhabited (SzoT 134):=⟨⟨_,Tryz.sizeOf134⟩⟩
instance:Inhabited (SzoT 337):=⟨⟨_,Tryz.sizeOf337⟩⟩
instance:Inhabited (SzoT 381):=⟨⟨_,Tryz.sizeOf381⟩⟩
instance:Inhabited (SzoT 383):=⟨⟨_,Tryz.sizeOf383⟩⟩
instance:Inhabited (SzoT 384):=⟨⟨_,Tryz.sizeOf384⟩⟩
instance:Inhabited (SzoT 252):=⟨⟨_,Tryz.sizeOf252⟩⟩
instance:Inhabited (SzoT 398):=⟨⟨_,Tryz.sizeOf398⟩⟩
instance:Inhabited (SzoT 402):=⟨⟨_,Tryz.sizeOf402⟩⟩
instance:Inhabited (SzoT 38):=⟨⟨_,Tryz.sizeOf38⟩⟩
instance:Inhabited (SzoT 433):=⟨⟨_,Tryz.sizeOf433⟩⟩
instance:Inhabited (AggT 3):=⟨⟨_,Tryz.isAgg3⟩⟩
instance:Inhabited (AggT 4):=⟨⟨_,Tryz.isAgg4⟩⟩
instance:Inhabited (AggT 5):=⟨⟨_,Tryz.isAgg5⟩⟩
instance:Inhabited (AggT 9):=⟨⟨_,Tryz.isAgg9⟩⟩
instance:Inhabited (AggT 268):=⟨⟨_,Tryz.isAgg268⟩⟩
instance:Inhabited (AggT 270):=⟨⟨_,Tryz.isAgg270⟩⟩
instance:Inhabited (AggT 30):=⟨⟨_,Tryz.isAgg30⟩⟩
instance:Inhabited (AggT 32):=⟨⟨_,Tryz.isAgg32⟩⟩
instance:Inhabited (AggT 72):=⟨⟨_,Tryz.isAgg72⟩⟩
instance:Inhabited (AggT 332):=⟨⟨_,Tryz.isAgg332⟩⟩
instance:Inhabited (AggT 334):=⟨⟨_,Tryz.isAgg334⟩⟩
instance:Inhabited (AggT 379):=⟨⟨_,Tryz.isAgg379⟩⟩
instance:Inhabited (AggT 134):=⟨⟨_,Tryz.isAgg134⟩⟩
instance:Inhabited (AggT 337):=⟨⟨_,Tryz.isAgg337⟩⟩
instance:Inhabited (AggT 384):=⟨⟨_,Tryz.isAgg384⟩⟩
instance:Inhabited (AggT 252):=⟨⟨_,Tryz.isAgg252⟩⟩
instance:Inhabited (AggT 398):=⟨⟨_,Tryz.isAgg398⟩⟩
instance:Inhabited (AggT 38):=⟨⟨_,Tryz.isAgg38⟩⟩
instance:Inhabited (AggT 81):=⟨⟨_,Tryz.isAgg81⟩⟩
instance:Inhabited (AggT 433):=⟨⟨_,Tryz.isAgg433⟩⟩
instance:Inhabited (UndT 179):=⟨⟨_,Tryz.underlying179⟩⟩
instance:Inhabited (UndT 118):=⟨⟨_,Tryz.underlying118⟩⟩
instance:Inhabited (UndT 245):=⟨⟨_,Tryz.underlying245⟩⟩
instance:Inhabited (UndT 91):=⟨⟨_,Tryz.underlying91⟩⟩
instance:Inhabited (UndT 93):=⟨⟨_,Tryz.underlying93⟩⟩
instance:Inhabited (UndT 292):=⟨⟨_,Tryz.underlying292⟩⟩
instance:Inhabited (UndT 227):=⟨⟨_,Tryz.underlying227⟩⟩
instance:Inhabited (UndT 228):=⟨⟨_,Tryz.underlying228⟩⟩
instance:Inhabited (SzoT 25):=⟨⟨_,Tryz.sizeOf25⟩⟩
instance:Inhabited (SzoT 179):=⟨⟨_,Tryz.sizeOf179⟩⟩
instance:Inhabited (SzoT 58):=⟨⟨_,Tryz.sizeOf58⟩⟩
instance:Inhabited (SzoT 245):=⟨⟨_,Tryz.sizeOf245⟩⟩
instance:Inhabited (SzoT 91):=⟨⟨_,Tryz.sizeOf91⟩⟩
instance:Inhabited (SzoT 93):=⟨⟨_,Tryz.sizeOf93⟩⟩
instance:Inhabited (SzoT 292):=⟨⟨_,Tryz.sizeOf292⟩⟩
instance:Inhabited (SzoT 227):=⟨⟨_,Tryz.sizeOf227⟩⟩
instance:Inhabited (SzoT 228):=⟨⟨_,Tryz.sizeOf228⟩⟩
instance:Inhabited (AggT 25):=⟨⟨_,Tryz.isAgg25⟩⟩
instance:Inhabited (AggT 179):=⟨⟨_,Tryz.isAgg179⟩⟩
instance:Inhabited (AggT 58):=⟨⟨_,Tryz.isAgg58⟩⟩
instance:Inhabited (AggT 245):=⟨⟨_,Tryz.isAgg245⟩⟩
instance:Inhabited (AggT 91):=⟨⟨_,Tryz.isAgg91⟩⟩
instance:Inhabited (AggT 93):=⟨⟨_,Tryz.isAgg93⟩⟩
instance:Inhabited (AggT 292):=⟨⟨_,Tryz.isAgg292⟩⟩
theorem EX{env:Env}{o:Operand}{x:AV}(h:Ev env o x:=by first|exact tm rfl|exact ev_int|exact ev_bool|exact ev_str rfl):Ev env o x:=h
theorem AP{P:Program}{o:Oper}{env:Env}{x:AV}(h:APure P o env x:=by first
  |((with_reducible apply pure_move);exact EX)
  |((with_reducible apply pure_assign);exact EX)
  |((with_reducible apply pure_load1);exact agg;exact EX)
  |((with_reducible apply pure_fieldI);exact und;rfl;exact szo;exact EX)
  |((with_reducible apply pure_pickF);exact EX;(first|rfl|assumption);exact EX)
  |((with_reducible apply pure_pickT);exact EX;(first|rfl|assumption);exact EX)
  |((with_reducible apply pure_extract);exact EX;rfl)
  |((with_reducible apply pure_add);exact EX;exact EX;omega)
  |((with_reducible apply pure_eql);exact EX;exact EX)
  |((with_reducible apply pure_lss);exact EX;exact EX)
  |((with_reducible apply pure_loadN);exact agg;exact szo;exact EX;exact Nat.le_of_ble_eq_true rfl)
  |((with_reducible apply pure_field);exact und;rfl;exact szo;exact EX)
  |((with_reducible apply pure_gtr);exact EX;exact EX)
  |((with_reducible apply pure_lenL);exact und;exact EX)
  |((with_reducible apply pure_nilCheck);exact EX)
  |((with_reducible apply pure_sub);exact EX;exact EX;omega)
  |((with_reducible apply pure_nilCheckI);exact EX)
  |((with_reducible apply pure_lenU);exact und;exact EX)
  |((with_reducible apply pure_lenStr);exact und;exact EX)
  |((with_reducible apply pure_indexL);exact und;exact szo;exact EX;exact EX;omega;omega)
  |((with_reducible apply pure_geq);exact EX;exact EX)
  |((with_reducible apply pure_eqlStr);exact EX;exact EX)
  |((with_reducible apply pure_not);exact EX)
  |((with_reducible apply pure_convX);exact und;exact und;exact EX;exact wrapN64 (by omega))
  |((with_reducible apply pure_assign);exact ev_nil (sz:=1) (tl:=.full))
  |((with_reducible apply pure_indexA);exact und;exact szo;exact EX;exact EX;omega;omega)
  |((with_reducible apply pure_neq);exact EX;exact EX)
  |((with_reducible apply pure_neg);exact EX;omega)
  |((with_reducible apply pure_leq);exact EX;exact EX)
  |((with_reducible apply pure_indexStr);exact und;exact EX;exact EX;omega;omega)
  |((with_reducible apply pure_neqStr);exact EX;exact EX)
  |((with_reducible apply pure_iface);exact und;rfl;exact EX)
  |((with_reducible apply pure_sliceStrL);exact und;exact EX;exact EX;omega;omega)
  |((with_reducible apply pure_sliceStr);exact und;exact EX;exact EX;exact EX;omega;omega;omega)
  |((with_reducible apply pure_max2);exact EX;exact EX)
  |((with_reducible apply pure_sliceStrH);exact und;exact EX;exact EX;omega;omega)
  |((with_reducible apply pure_addX64);exact EX;exact EX;omega)
  |((with_reducible apply pure_convX);exact und;exact und;exact EX;exact wrapNI64 (by omega))
  |((with_reducible apply pure_min2);exact EX;exact EX)
  |((with_reducible apply pure_indexB);exact und;exact szo;exact EX;exact EX;omega;omega)
  |((with_reducible apply pure_mul);exact EX;exact EX;omega)
  |((with_reducible apply pure_sliceHiL);exact und;exact szo;exact EX;exact EX;omega;omega)
  |((with_reducible apply pure_sliceLoL);exact und;exact szo;exact EX;exact EX;omega;omega)
  |((with_reducible apply pure_func1);exact EX)
  |((with_reducible apply pure_addX64);exact EX;exact EX;(first|rfl|assumption))
  |((with_reducible apply pure_rem);exact EX;exact EX;omega)
  |((with_reducible apply pure_indexM);exact und;exact szo;exact EX;exact EX;omega;omega)
  |((with_reducible apply pure_convM);exact und;exact und;rfl;exact EX)
  |((with_reducible apply pure_lenM);exact und;exact EX)
  |((with_reducible apply pure_shl64);exact EX;exact EX)
  |((with_reducible apply pure_shr64);exact EX;exact EX;(first|rfl|assumption))
  |((with_reducible apply pure_or64);exact EX;exact EX;(first|rfl|assumption);omega)
  |((with_reducible apply pure_mulX64);exact EX;exact EX;omega)
  ):APure P o env x:=h
theorem AWP.cx{P:Program}{n:Fr}{Q:Exit→Env→Heap→Prop}{env:Env}{H:Heap}{t:Tmp}{a b:Code}{c:Bool}{p q:Prop}(hc:Env.get? env t=some (.bool c))(ht:p→AWP P n a Q env H)(hf:q→AWP P n b Q env H)
    (hp:c=true→p:=by intro h;(try simp only[decide_eq_true_eq,decide_eq_false_iff_not,Bool.not_eq_true',Bool.not_eq_false',Int.not_lt,Int.not_le,ne_eq,Decidable.not_not]at h);exact h)
    (hq:c=false→q:=by intro h;(try simp only[decide_eq_true_eq,decide_eq_false_iff_not,Bool.not_eq_true',Bool.not_eq_false',Int.not_lt,Int.not_le,ne_eq,Decidable.not_not]at h);exact h):AWP P n (.cond (.tmp t) a b) Q env H:=
  AWP.cond (tm hc) (λh=>ht (hp h)) (λh=>hf (hq h))
theorem sX{e f:Env}(h:Env.sub e f:=by repeat first|exact sub_n|refine sub_c rfl ?_):Env.sub e f:=h
section
variable{P:Program}{R:AV→Heap→Prop}{env:Env}{H:Heap}{t u v:Tmp}{x y z:AV}{T:TypeId}{k:Nat}{cs:List AV}
theorem rgo1(h:Env.get? env t=some x)(q:R (packed [x]) H):Ret.q P [.tmp t] R .ret env H:=Ret.go (.cons (.tmp _ _ h) .nil) _ (Heap.le.refl _) q
theorem rgo2(h:Env.get? env t=some x)(h2:Env.get? env u=some y)(q:R (packed [x,y]) H):Ret.q P [.tmp t,.tmp u] R .ret env H:=Ret.go (.cons (.tmp _ _ h) (.cons (.tmp _ _ h2) .nil)) _ (Heap.le.refl _) q
theorem rgo3(h:Env.get? env t=some x)(h2:Env.get? env u=some y)(h3:Env.get? env v=some z)(q:R (packed [x,y,z]) H):Ret.q P [.tmp t,.tmp u,.tmp v] R .ret env H:=Ret.go (.cons (.tmp _ _ h) (.cons (.tmp _ _ h2) (.cons (.tmp _ _ h3) .nil))) _ (Heap.le.refl _) q
theorem rgc1(h:Env.get? env t=some (.iptr cs))(ha:∀w,(isAgg T).run P w= .ok true w)(hs:∀w,(sizeOf T).run P w= .ok k w)(hk:Nat.ble k cs.length=true)(q:R (packed [.agg (cs.take k)]) H):Ret.q P [.cell t T] R .ret env H:=Ret.go (.cons (.cellI _ _ _ _ h ha hs hk) .nil) _ (Heap.le.refl _) q
theorem rgc2(h:Env.get? env t=some (.iptr cs))(ha:∀w,(isAgg T).run P w= .ok true w)(hs:∀w,(sizeOf T).run P w= .ok k w)(hk:Nat.ble k cs.length=true)(h2:Env.get? env u=some y)(q:R (packed [.agg (cs.take k),y]) H):Ret.q P [.cell t T,.tmp u] R .ret env H:=Ret.go (.cons (.cellI _ _ _ _ h ha hs hk) (.cons (.tmp _ _ h2) .nil)) _ (Heap.le.refl _) q
theorem rgc3(h:Env.get? env t=some (.iptr cs))(ha:∀w,(isAgg T).run P w= .ok true w)(hs:∀w,(sizeOf T).run P w= .ok k w)(hk:Nat.ble k cs.length=true)(h2:Env.get? env u=some y)(h3:Env.get? env v=some z)(q:R (packed [.agg (cs.take k),y,z]) H):Ret.q P [.cell t T,.tmp u,.tmp v] R .ret env H:=Ret.go (.cons (.cellI _ _ _ _ h ha hs hk) (.cons (.tmp _ _ h2) (.cons (.tmp _ _ h3) .nil))) _ (Heap.le.refl _) q
end
section
variable{P:Program}{n:Fr}{ops:Array Oper}{Q:Exit→Env→Heap→Prop}{env:Env}{H:Heap}{l:List Oper}{ty:TypeId}{pos:String}{af:Array Edge}
theorem AList.stS{T S:TypeId}{p x:Operand}{b o k:Nat}{cs:List AV}{y:AV}(hs:∀w,(sizeOf T).run P w= .ok k w)(hp:Ev env p (.ptr (some ⟨b,o,none⟩)))(hx:Ev env x y)
    (hy:y.cells.all AV.one=true)(hyk:y.cells.length=k)(hy1:y.one=true∨∃cs,y= .agg cs)(hk:o+k≤cs.length)(q:AList P n ops Q l env (H.set b (.box S (putRow cs o y.cells)))):AList P n ops Q (⟨none,.store T p x,ty,pos,af,none⟩::l) env (H.set b (.box S cs)):=
  AList.e0 (step_store hs hp hx hy hyk hy1 (Heap.objs_set_same _ _ _) hk) (by rw[Heap.set_set];exact q)
theorem AList.stU{T S:TypeId}{p x:Operand}{b c o k:Nat}{cs:List AV}{y:AV}{z:AObj}(hbc:b≠c)(hs:∀w,(sizeOf T).run P w= .ok k w)(hp:Ev env p (.ptr (some ⟨b,o,none⟩)))(hx:Ev env x y)
    (hy:y.cells.all AV.one=true)(hyk:y.cells.length=k)(hy1:y.one=true∨∃cs,y= .agg cs)(hk:o+k≤cs.length)(q:AList P n ops Q l env ((H.set b (.box S (putRow cs o y.cells))).set c z)):AList P n ops Q (⟨none,.store T p x,ty,pos,af,none⟩::l) env ((H.set b (.box S cs)).set c z):=
  AList.e0 (step_store hs hp hx hy hyk hy1 ((Heap.objs_set_ne _ _ hbc).trans (Heap.objs_set_same _ _ _)) hk) (by rw[Heap.set_under hbc];exact q)
end
theorem evN{env:Env}{k:IntKind}{n:Nat}:Ev env (.const (.int k (OfNat.ofNat n))) (.int k ((OfNat.ofNat n:Nat):Int)):=ev_nat n
theorem EN{env:Env}{o:Operand}{x:AV}(h:Ev env o x:=by first|exact tm rfl|exact evN):Ev env o x:=h
theorem APN{P:Program}{o:Oper}{env:Env}{x:AV}(h:APure P o env x:=by first
  |((with_reducible apply pure_assign);exact EN)
  |((with_reducible apply pure_eql);exact EN;exact EN)
  |((with_reducible apply pure_assign);exact ev_nil (sz:=1) (tl:=.shared))
  |((with_reducible apply pure_rem64);exact EN;exact EN;omega)
  |((with_reducible apply pure_shr64);exact EN;exact EN;(first|rfl|assumption))
  |((with_reducible apply pure_quoI64);exact EN;exact EN;omega;omega)
  |((with_reducible apply pure_gtr);exact EN;exact EN)
  |((with_reducible apply pure_add);exact EN;exact EN;omega)
  |((with_reducible apply pure_geq);exact EN;exact EN)
  |((with_reducible apply pure_remI64);exact EN;exact EN;omega)
  |((with_reducible apply pure_sub);exact EN;exact EN;omega)
  |((with_reducible apply pure_lss);exact EN;exact EN)
  |((with_reducible apply pure_neq);exact EN;exact EN)
  |((with_reducible apply pure_addX64);exact EN;exact EN;omega)
  |((with_reducible apply pure_and64);exact EN;exact EN;omega;omega)
  |((with_reducible apply pure_shr64);exact EN;exact EN;omega)
  |((with_reducible apply pure_and64);exact EN;exact EN;(first|rfl|assumption);omega)
  ):APure P o env x:=h
theorem AXh{a b:Prop}(h:a→b:=by first
  |((with_reducible apply AList.p);rfl;exact AP)
  |((with_reducible apply AList.gn);rfl;rfl;rfl;(first|rfl|assumption))
  |((with_reducible exact AList.nil))
  |((with_reducible exact Next.go))
  |((with_reducible exact AWP.seq))
  |((with_reducible exact AWP.region))
  |((with_reducible exact AWP.skip))
  |((with_reducible apply AList.gp);rfl;rfl;rfl;(first|rfl|assumption);exact AP)
  |((with_reducible exact AWP.ret))
  |((with_reducible apply rgo1);rfl)
  |((with_reducible apply rgo2);rfl;rfl)
  |((with_reducible apply rgo3);rfl;rfl;rfl)
  |((with_reducible apply rgc1);rfl;exact agg;exact szo;rfl)
  |((with_reducible apply rgc2);rfl;exact agg;exact szo;rfl;rfl)
  |((with_reducible apply rgc3);rfl;exact agg;exact szo;rfl;rfl;rfl)
  |((with_reducible apply AList.stS);exact szo;exact tm rfl;(first|exact tm rfl|exact ev_int|exact ev_bool|exact ev_str rfl);rfl;rfl;(first|exact .inl rfl|exact .inr ⟨_,rfl⟩);exact Nat.le_of_ble_eq_true rfl)
  |((with_reducible apply AList.stU);assumption;exact szo;exact tm rfl;(first|exact tm rfl|exact ev_int|exact ev_bool|exact ev_str rfl);rfl;rfl;(first|exact .inl rfl|exact .inr ⟨_,rfl⟩);exact Nat.le_of_ble_eq_true rfl)
  |((with_reducible apply AList.e);rfl;exact step_loadN agg szo (tm rfl) (by first|assumption|exact Heap.objs_set_same _ _ _|exact(Heap.objs_set_ne _ _ (by assumption)).trans (Heap.objs_set_same _ _ _)|exact(by assumption:Heap.le _ _).objs _ _ (by assumption)) (Nat.le_of_ble_eq_true rfl))
  |((with_reducible apply AList.e);rfl;exact step_load1 agg (tm rfl) (by first|assumption|exact Heap.objs_set_same _ _ _|exact(Heap.objs_set_ne _ _ (by assumption)).trans (Heap.objs_set_same _ _ _)|exact(by assumption:Heap.le _ _).objs _ _ (by assumption)) rfl)
  |((with_reducible apply AList.e);rfl;exact step_boxI (tm rfl) (by first|exact .inl rfl|exact .inr ⟨_,rfl⟩))
  |((with_reducible exact Next.rt))
  |((with_reducible exact Next.ex))
  |((with_reducible exact Block.rt))
  |((with_reducible exact Block.hit))
  |((with_reducible exact Block.go))
  |((with_reducible apply Block.miss);rfl)
  |((with_reducible exact AWP.block))
  |((with_reducible exact AWP.exit))
  |((with_reducible exact AWP.label))
  |((with_reducible apply AList.gdead);rfl;rfl;rfl)
  |((with_reducible apply APlan.p);rfl;rfl;exact AP)
  |((with_reducible apply APlan.gn);rfl;rfl;rfl;rfl;(first|rfl|assumption))
  |((with_reducible exact APlan.nil))
  |((with_reducible apply APlan.gp);rfl;rfl;rfl;rfl;(first|rfl|assumption);exact AP)
  |((with_reducible apply APlan.gdead);rfl;rfl;rfl;rfl)
  |((with_reducible apply APlanI.p);rfl;rfl;exact AP)
  |((with_reducible apply APlanI.gn);rfl;rfl;rfl;rfl;(first|rfl|assumption))
  |((with_reducible exact APlanI.nil))
  |((with_reducible apply APlanI.gp);rfl;rfl;rfl;rfl;(first|rfl|assumption);exact AP)
  |((with_reducible apply APlanI.gdead);rfl;rfl;rfl;rfl)
  ):a→b:=h
theorem AX{a b:Prop}(k:a)(h:a→b:=by exact AXh):b:=h k
theorem AMh{a b:Prop}(h:a→b:=by first
  |((with_reducible apply AList.p);rfl;exact APN)
  |((with_reducible apply AList.gp);rfl;rfl;rfl;(first|rfl|assumption);exact APN)
  |((with_reducible apply APlan.p);rfl;rfl;exact APN)
  |((with_reducible apply APlan.gp);rfl;rfl;rfl;rfl;(first|rfl|assumption);exact APN)
  |((with_reducible apply APlanI.p);rfl;rfl;exact APN)
  |((with_reducible apply APlanI.gp);rfl;rfl;rfl;rfl;(first|rfl|assumption);exact APN)
  |exact AXh):a→b:=h
theorem AM{a b:Prop}(k:a)(h:a→b:=by exact AMh):b:=h k
set_option maxRecDepth 100000
def ZR(T:TypeId)(cs:List AV):Prop:=∃z:Value,(∀w,(zeroValue T).run Tryz.prog w= .ok z w)∧∀g,RelCells g cs z.cells
theorem ZRi{T:TypeId}{cs:List AV}{z:Value}(hz:∀w,(zeroValue T).run Tryz.prog w= .ok z w){vs:List Value}(e:z.cells=vs.toArray:=by rfl)
    (h:∀g,RelL g cs vs:=by intro g;repeat first|exact .nil|refine .cons (.int _ _) ?_ |refine .cons (.bool _) ?_ |refine .cons (.ptr _) ?_ |refine .cons (.str [] (Nat.zero_le _)) ?_ |refine .cons (.nilSlice _ _) ?_):ZR T cs:=⟨z,hz,λg=>e▸RelL.cells (h g)⟩
def SzL:List Field→List (Nat×Nat)→Prop
  | [],[]=>True
  |f::fs,p::ps=>f.offset=p.1∧(∀w,(sizeOf f.type).run Tryz.prog w= .ok p.2 w)∧SzL fs ps
  |_,_=>False
theorem SzL.off:∀{fs:List Field}{ps:List (Nat×Nat)},SzL fs ps→fs.map (·.offset)=ps.map (·.1)
  | [],[],_=>rfl
  |f::fs,p::ps,h=>by rw[List.map_cons,List.map_cons,h.1,SzL.off h.2.2]
  | [],_::_,h=>h.elim
  |_::_,[],h=>h.elim
theorem SzL.sz:∀{fs:List Field}{ps:List (Nat×Nat)},SzL fs ps→∀(i:Nat) f p,fs[i]?=some f→ps[i]?=some p→∀w,(sizeOf f.type).run Tryz.prog w= .ok p.2 w
  | [],_,_,i,f,p,hf,_=>by simp at hf
  |_::_,[],h,_,_,_,_,_=>h.elim
  |f::fs,p::ps,h,0,_,_,hf,hp=>by cases hf;cases hp;exact h.2.1
  |f::fs,p::ps,h,i+1,_,_,hf,hp=>SzL.sz h.2.2 i _ _ hf hp
def PL(T:TypeId)(ps:List (Nat×Nat)):Prop:=∃fs:Array Field,Tryz.prog.underlying T=some (.struct fs)∧SzL fs.toList ps
theorem PLi{T:TypeId}{fs:Array Field}{ps:List (Nat×Nat)}(hu:Tryz.prog.underlying T=some (.struct fs))(h:SzL fs.toList ps:=by repeat first|exact True.intro|refine⟨rfl,szo,?_⟩):PL T ps:=⟨fs,hu,h⟩
theorem pure_bd{dst:Option Tmp}{ty:TypeId}{pos:String}{af:Array Edge}{gd:Option (Nat×Bool)}{env:Env}{T:TypeId}{ops:List (Nat×Operand)}{qs:List (Nat×AV)}{zs cs:List AV}{places:List (Nat×Nat)}(hz:ZR T zs)(hp:PL T places)
    (hq:Parts env ops qs)(hf:fillA (places[·]?) zs qs=some cs:=by rfl):APure Tryz.prog ⟨dst,.build T ops.toArray,ty,pos,af,gd⟩ env (.agg cs):=
  let⟨_,hz,hc⟩:=hz;let⟨_,hu,hs⟩:=hp
  pure_build places hu hz hc hs.off (λi f p hf=>hs.sz i f p (by rw[Array.getElem?_toList];exact hf)) hq hf
theorem pure_bdS{dst:Option Tmp}{ty:TypeId}{pos:String}{af:Array Edge}{gd:Option (Nat×Bool)}{env:Env}{T:TypeId}{ops:List (Nat×Operand)}{qs:List (Nat×AV)}{zs cs:List AV}{places:List (Nat×Nat)}(hz:ZR T zs)(hp:PL T places)
    (hq:Parts env ops qs)(hf:seqFill places 0 0 qs=some cs:=by rfl)(hl:Nat.beq cs.length zs.length=true:=by rfl):APure Tryz.prog ⟨dst,.build T ops.toArray,ty,pos,af,gd⟩ env (.agg cs):=
  let⟨_,hz,hc⟩:=hz;let⟨_,hu,hs⟩:=hp
  pure_buildS places hu hz hc hs.off (λi f p hf=>hs.sz i f p (by rw[Array.getElem?_toList];exact hf)) hq hf hl
theorem AList.al{n:Fr}{ops:Array Oper}{Q:Exit→Env→Heap→Prop}{l:List Oper}{env:Env}{H:Heap}{ty:TypeId}{pos:String}{af:Array Edge}{d:Tmp}{T:TypeId}{cs:List AV}(hz:ZR T cs)(k:∀b,H.objs b=none→AList Tryz.prog n ops Q l ((d,.ptr (some ⟨b,0,none⟩))::env) (H.set b (.box T cs)))(hd:Nat.blt d n.size=true:=by rfl):AList Tryz.prog n ops Q (⟨some d,.alloc T,ty,pos,af,none⟩::l) env H:=
  let⟨_,hz,hc⟩:=hz
  AList.s hd (step_alloc hz hc) λ_ _ ⟨b,hb,e1,e2⟩=>by subst e1;subst e2;exact k b hb
theorem step_al{dst:Option Tmp}{ty:TypeId}{pos:String}{af:Array Edge}{gd:Option (Nat×Bool)}{env:Env}{H:Heap}{T:TypeId}{cs:List AV}(hz:ZR T cs):AStep Tryz.prog ⟨dst,.alloc T,ty,pos,af,gd⟩ env H (λy H'=>∃b,H.objs b=none∧y= .ptr (some ⟨b,0,none⟩)∧H'=H.set b (.box T cs)):=
  let⟨_,hz,hc⟩:=hz;step_alloc hz hc
theorem pure_bdA{dst:Option Tmp}{ty:TypeId}{pos:String}{af:Array Edge}{gd:Option (Nat×Bool)}{env:Env}{T E:TypeId}{N sz:Nat}{ops:List (Nat×Operand)}{qs:List (Nat×AV)}{zs cs:List AV}(hu:Tryz.prog.underlying T=some (.array N E))(hE:∀w,(sizeOf E).run Tryz.prog w= .ok sz w)(hz:ZR T zs)
    (hq:Parts env ops qs)(hf:fillA (λi=>some (i*sz,sz)) zs qs=some cs:=by rfl):APure Tryz.prog ⟨dst,.build T ops.toArray,ty,pos,af,gd⟩ env (.agg cs):=
  let⟨_,hz,hc⟩:=hz;pure_buildA hu hE hz hc hq hf
end Go.Proofs.YtojblnldfdeefaaGreatDoor
namespace Go.Proofs.YtojblnldfdeefaaGreatDoor
open Go Go.RowKit
section
inductive PT where
  |done:PT
  |op (i:Nat) (p:Bool) (k:PT):PT
  |two (i:Nat) (a:PT) (j:Nat) (b:PT):PT
def PT.size:PT→Nat
  | .done=>0
  | .op _ _ k=>k.size+1
  | .two _ a _ _=>a.size+1
section
def planT(ops:Array Oper):PT→Array Bool→Bool
  | .done,listed=>(Region.ready .any ops listed).isEmpty
  | .op i p k,listed=>(if p then(Region.ready .any ops listed).contains i&&Region.free .any ops listed i else Region.ready .any ops listed==[i])&&planT ops k (listed.setIfInBounds i true)
  | .two i a j b,listed=>(Region.ready .any ops listed==[i,j])&&(a.size==b.size)&&planT ops a (listed.setIfInBounds i true)&&planT ops b (listed.setIfInBounds j true)
def ATree(P:Program)(n:Fr)(ops:Array Oper)(Q:Exit→Env→Heap→Prop):PT→Env→Heap→Prop
  | .done,env,H=>Q .normal env H
  | .op i p k,env,H=>∃o,ops[i]?=some o∧fits n o.dst=true∧
      ((p=true∧∃x,Steady P ops o env x∧ATree P n ops Q k (env.put o.dst x) H)∨
       (p=false∧Wanted ops (Env.only (o.looksAt ops) env) o true∧∃R,AStep P o (Env.only (o.looksAt ops) env) H R∧∀x H',R x H'→ATree P n ops Q k (env.put o.dst x) H'))
  | .two i a j b,env,H=>XOp P n ops i (ATree P n ops Q a) env H∧XOp P n ops j (ATree P n ops Q b) env H
variable{P:Program}{n:Fr}{ops:Array Oper}
theorem XAny_of_tree{Q:Exit→Env→Heap→Prop}:∀(t:PT)(listed:Array Bool)(env:Env)(H:Heap),planT ops t listed=true→ATree P n ops Q t env H→XAny P n ops (Q .normal) t.size listed env H
  | .done,listed,env,H,hB,h=>⟨by simpa[planT]using hB,env,λ_=>rfl,h⟩
  | .op i p k,listed,env,H,hB,h=>by
    obtain⟨o,hi,hd,hcase⟩:=h;simp only[planT,Bool.and_eq_true]at hB;obtain⟨hB1,hB2⟩:=hB;rcases hcase with⟨rfl,x,hx,hk⟩|⟨rfl,hw,R,hx,hk⟩
    · simp only[if_true,Bool.and_eq_true]at hB1;exact XAny_first hi hd k.size listed env H (Region.free_spec hi hB1.2) (by simpa using hB1.1) hx (XAny_of_tree k _ _ H hB2 hk)
    simp only[Bool.false_eq_true,if_false,beq_iff_eq]at hB1;refine⟨λh0=>(by rw[hB1]at h0;cases h0),λj hj=>?_⟩;rw[hB1]at hj;have hji:j=i:=by simpa using hj
    subst hji;exact⟨o,hi,hd,.inr ⟨hw,R,hx,λy H' hR=>XAny_of_tree k _ _ H' hB2 (hk y H' hR)⟩⟩
  | .two i a j b,listed,env,H,hB,h=>by
    simp only[planT,Bool.and_eq_true,beq_iff_eq]at hB;obtain⟨⟨⟨hrd,hl⟩,hb1⟩,hb2⟩:=hB;obtain⟨h1,h2⟩:=h;refine⟨λh0=>(by rw[hrd]at h0;cases h0),λk hk=>?_⟩;rw[hrd]at hk;rcases List.mem_cons.1 hk with rfl|hk
    · exact h1.mono λe2 H2 hq=>XAny_of_tree a _ e2 H2 hb1 hq
    have:k=j:=by simpa using hk
    subst this;rw[hl];exact h2.mono λe2 H2 hq=>XAny_of_tree b _ e2 H2 hb2 hq
theorem AWP.drawT{Q:Exit→Env→Heap→Prop}{env:Env}{H:Heap}{id:Nat}{l:List Oper}(t:PT)(hm:P.follows .mixedOrders=true)
    (hB:((t.size==l.length)&&planT l.toArray t (Array.replicate l.length false))=true)(h:ATree P n l.toArray Q t env H):AWP P n (.region id l.toArray true) Q env H:=by
  intro g a w hr hs;simp only[Bool.and_eq_true,beq_iff_eq]at hB;obtain⟨hlen,hB⟩:=hB;refine wp_region_any hm ?_;have hC:=XAny_of_tree t _ env H hB h;rw[hlen]at hC;rw[show l.toArray.size=l.length by simp];exact wpAny_of_XAny (g0:=g) (λg' a' w' e H' hle hr' hs' hq=>⟨g',e,H',hle,hr',hs',hq⟩) _ _ g a _ env H (G.le.refl g) hr hs.drew hC
variable{Q:Exit→Env→Heap→Prop}{env:Env}{H:Heap}
theorem ATree.nil(h:Q .normal env H):ATree P n ops Q .done env H:=h
theorem ATree.free{i:Nat}{o:Oper}{r:PT}{x:AV}(hi:ops[i]?=some o)(hw:Wanted ops (Env.only (o.looksAt ops) env) o true)(hd:fits n o.dst=true)(h:AFree P o (Env.only (o.looksAt ops) env) x)(hk:ATree P n ops Q r (env.put o.dst x) H):
    ATree P n ops Q (.op i true r) env H:=⟨o,hi,hd,.inl ⟨rfl,x,.inl ⟨hw,h⟩,hk⟩⟩
theorem ATree.unwanted{i:Nat}{o:Oper}{r:PT}(hi:ops[i]?=some o)(hw:Wanted ops (Env.only (o.looksAt ops) env) o false)(hd:fits n o.dst=true)(hk:ATree P n ops Q r (env.put o.dst (.raw undef)) H):
    ATree P n ops Q (.op i true r) env H:=⟨o,hi,hd,.inl ⟨rfl,_,.inr ⟨hw,rfl⟩,hk⟩⟩
theorem ATree.step{i:Nat}{o:Oper}{r:PT}{R:AV→Heap→Prop}(hi:ops[i]?=some o)(hw:Wanted ops (Env.only (o.looksAt ops) env) o true)(hd:fits n o.dst=true)(h:AStep P o (Env.only (o.looksAt ops) env) H R)
    (hk:∀x H',R x H'→ATree P n ops Q r (env.put o.dst x) H'):ATree P n ops Q (.op i false r) env H:=⟨o,hi,hd,.inr ⟨rfl,hw,R,h,hk⟩⟩
theorem XTree.s{i:Nat}{r:PT}{op:Op}{ty:TypeId}{pos:String}{af:Array Edge}{d:Tmp}{R:AV→Heap→Prop}(hi:ops[i]?=some ⟨some d,op,ty,pos,af,none⟩)(hd:Nat.blt d n.size=true)(h:AStep P ⟨some d,op,ty,pos,af,none⟩ (Env.only (Oper.looksAt ops ⟨some d,op,ty,pos,af,none⟩) env) H R)
    (k:∀x H',R x H'→ATree P n ops Q r ((d,x)::env) H'):XOp P n ops i (ATree P n ops Q r) env H:=
  ⟨_,hi,hd,.inr ⟨.free rfl,R,h,k⟩⟩
variable{op:Op}{ty:TypeId}{pos:String}{af:Array Edge}{x:AV}{i:Nat}{r:PT}
theorem ATree.p{d:Tmp}(hi:ops[i]?=some ⟨some d,op,ty,pos,af,none⟩)(hd:Nat.blt d n.size=true)(h:APure P ⟨some d,op,ty,pos,af,none⟩ (Env.only (Oper.looksAt ops ⟨some d,op,ty,pos,af,none⟩) env) x)(k:ATree P n ops Q r ((d,x)::env) H):ATree P n ops Q (.op i true r) env H:=
  ATree.free hi (.free rfl) hd h.free k
theorem ATree.f{d:Tmp}(hi:ops[i]?=some ⟨some d,op,ty,pos,af,none⟩)(hd:Nat.blt d n.size=true)(h:AFree P ⟨some d,op,ty,pos,af,none⟩ (Env.only (Oper.looksAt ops ⟨some d,op,ty,pos,af,none⟩) env) x)(k:ATree P n ops Q r ((d,x)::env) H):ATree P n ops Q (.op i true r) env H:=
  ATree.free hi (.free rfl) hd h k
theorem ATree.s{d:Tmp}{R:AV→Heap→Prop}(hi:ops[i]?=some ⟨some d,op,ty,pos,af,none⟩)(hd:Nat.blt d n.size=true)(h:AStep P ⟨some d,op,ty,pos,af,none⟩ (Env.only (Oper.looksAt ops ⟨some d,op,ty,pos,af,none⟩) env) H R)(k:∀x H',R x H'→ATree P n ops Q r ((d,x)::env) H'):
    ATree P n ops Q (.op i false r) env H:=ATree.step hi (.free rfl) hd h k
theorem ATree.s0{R:AV→Heap→Prop}(hi:ops[i]?=some ⟨none,op,ty,pos,af,none⟩)(h:AStep P ⟨none,op,ty,pos,af,none⟩ (Env.only (Oper.looksAt ops ⟨none,op,ty,pos,af,none⟩) env) H R)(k:∀x H',R x H'→ATree P n ops Q r env H'):
    ATree P n ops Q (.op i false r) env H:=ATree.step hi (.free rfl) rfl h k
theorem ATree.gp{d:Tmp}{e:Tmp}{j:Nat}{want b:Bool}(hi:ops[i]?=some ⟨some d,op,ty,pos,af,some (j,want)⟩)(hd:Nat.blt d n.size=true)(hg:(ops[j]?).bind (·.dst)=some e)(hb:(Env.only (Oper.looksAt ops ⟨some d,op,ty,pos,af,some (j,want)⟩) env).get? e=some (.bool b))(hbw:b=want)
    (h:APure P ⟨some d,op,ty,pos,af,some (j,want)⟩ (Env.only (Oper.looksAt ops ⟨some d,op,ty,pos,af,some (j,want)⟩) env) x)(k:ATree P n ops Q r ((d,x)::env) H):ATree P n ops Q (.op i true r) env H:=
  ATree.free hi (.yes rfl hg hb hbw) hd h.free k
theorem ATree.gf{d:Tmp}{e:Tmp}{j:Nat}{want b:Bool}(hi:ops[i]?=some ⟨some d,op,ty,pos,af,some (j,want)⟩)(hd:Nat.blt d n.size=true)(hg:(ops[j]?).bind (·.dst)=some e)(hb:(Env.only (Oper.looksAt ops ⟨some d,op,ty,pos,af,some (j,want)⟩) env).get? e=some (.bool b))(hbw:b=want)
    (h:AFree P ⟨some d,op,ty,pos,af,some (j,want)⟩ (Env.only (Oper.looksAt ops ⟨some d,op,ty,pos,af,some (j,want)⟩) env) x)(k:ATree P n ops Q r ((d,x)::env) H):ATree P n ops Q (.op i true r) env H:=
  ATree.free hi (.yes rfl hg hb hbw) hd h k
theorem ATree.gs{d:Tmp}{e:Tmp}{j:Nat}{want b:Bool}{R:AV→Heap→Prop}(hi:ops[i]?=some ⟨some d,op,ty,pos,af,some (j,want)⟩)(hd:Nat.blt d n.size=true)(hg:(ops[j]?).bind (·.dst)=some e)(hb:(Env.only (Oper.looksAt ops ⟨some d,op,ty,pos,af,some (j,want)⟩) env).get? e=some (.bool b))(hbw:b=want)
    (h:AStep P ⟨some d,op,ty,pos,af,some (j,want)⟩ (Env.only (Oper.looksAt ops ⟨some d,op,ty,pos,af,some (j,want)⟩) env) H R)(k:∀x H',R x H'→ATree P n ops Q r ((d,x)::env) H'):ATree P n ops Q (.op i false r) env H:=
  ATree.step hi (.yes rfl hg hb hbw) hd h k
theorem ATree.gn{d:Tmp}{e:Tmp}{j:Nat}{want b:Bool}(hi:ops[i]?=some ⟨some d,op,ty,pos,af,some (j,want)⟩)(hd:Nat.blt d n.size=true)(hg:(ops[j]?).bind (·.dst)=some e)(hb:(Env.only (Oper.looksAt ops ⟨some d,op,ty,pos,af,some (j,want)⟩) env).get? e=some (.bool b))(hbw:b= !want)
    (k:ATree P n ops Q r ((d,.raw undef)::env) H):ATree P n ops Q (.op i true r) env H:=
  ATree.unwanted hi (.no rfl hg hb hbw) hd k
theorem ATree.gdead{d:Tmp}{e:Tmp}{j:Nat}{want:Bool}(hi:ops[i]?=some ⟨some d,op,ty,pos,af,some (j,want)⟩)(hd:Nat.blt d n.size=true)(hg:(ops[j]?).bind (·.dst)=some e)(hb:(Env.only (Oper.looksAt ops ⟨some d,op,ty,pos,af,some (j,want)⟩) env).get? e=some (.raw undef))
    (k:ATree P n ops Q r ((d,.raw undef)::env) H):ATree P n ops Q (.op i true r) env H:=
  ATree.unwanted hi (.dead j want e rfl hg hb) hd k
end
end
section
section
variable{P:Program}{env:Env}{H H0:Heap}{dst:Option Tmp}{ty:TypeId}{pos:String}{af:Array Edge}{gd:Option (Nat×Bool)}
end
end
section
section
variable{P:Program}{env:Env}{H:Heap}{dst:Option Tmp}{ty:TypeId}{pos:String}{af:Array Edge}{gd:Option (Nat×Bool)}
theorem pure_sliceA{T E:TypeId}{x:Operand}{N:Nat}{cs:List AV}(hu:P.underlying T=some (.array N E))(hs:∀w,(sizeOf E).run P w= .ok 1 w)(hx:Ev env x (.iptr cs))(hl:cs.length=N)(hN:N≤maxLen)
    (hc:∀c,c∈cs→c.cells=[c]∧c.one=true):APure P ⟨dst,.slice T x none none none,ty,pos,af,gd⟩ env (.slice 1 cs .full):=by
  intro g n a ka;obtain⟨v,he,hv⟩:=ev1 hx ka;cases hv with
  |iptr cs b off vs hi hr=>
    subst hl;refine⟨.slice (some ⟨b,off,none⟩) cs.length cs.length,?_,λw hw=>?_⟩
    · refine .slice 1 cs .full b off cs.length vs (λc h=>?_) (λi h=>hi i (by omega)) (λi j x c hx hj=>?_) (Nat.le_refl _) hN (by show(cs.length-cs.length)*1=0;omega)
      · obtain⟨h1,h2⟩:=hc c h;exact⟨by rw[h1];rfl,by rw[h1];simp[h2]⟩
      obtain⟨h1,_⟩:=hc x (List.mem_of_getElem? hx);rw[h1]at hj;cases j with
      |zero=>
        simp only[List.getElem?_cons_zero,Option.some.injEq]at hj;subst hj;rw[show i*1+0=i by omega];exact hr i _ hx
      |succ j=>simp at hj
    simp[execOp,he,Instr.sliceAt,Instr.sureAddr,Instr.sliceBounds,underlying,hu,hs,Addr.add_off]
theorem step_loadKN{T:TypeId}{x:Operand}{b k:Nat}{cs:List AV}(ha:∀w,(isAgg T).run P w= .ok true w)(hs:∀w,(sizeOf T).run P w= .ok k w)(hx:Ev env x (.ptr (some ⟨b,0,none⟩)))(hl:cs.length=k)(_:0<k)
    (hk:∀W,Inv W→∃vs:List Value,vs.length=k∧(∀(i:Nat) v,vs[i]?=some v→W.cell? ⟨b,i,none⟩=some v)∧∀g(i:Nat) c v,cs[i]?=some c→vs[i]?=some v→RelV g c v):
    AStep P ⟨dst,.load T x,ty,pos,af,gd⟩ env H (λy H'=>y= .agg cs∧H'=H):=by
  intro g n a w ka s;obtain⟨v,he,hv⟩:=ev1 hx ka;cases hv
  obtain⟨vs,h1,h2,h3⟩:=hk _ g.hinv;have hcell:∀(j:Nat) v,vs[j]?=some v→w.cell? ((⟨b,0,none⟩:Addr).add j)=some v:=λj v hj=>by
    have h4:=h2 j v hj;have hlt:b<g.base.heap.size:=World.block_lt_of_cell? _ (a:=⟨b,j,none⟩) h4;have e:(⟨b,0,none⟩:Addr).add j=⟨b,j,none⟩:=by rw[Addr.add_off,Nat.zero_add]
    rw[e,World.cell?_of_block (w:=g.base) (s.below.block b hlt)];exact h4
  have hrun:=run_loadCells_list (P:=P) (w:=w) ⟨b,0,none⟩ vs hcell;rw[h1]at hrun;have:(execOp a.eval ⟨dst,.load T x,ty,pos,af,gd⟩).run P w= .ok (.value (.agg vs.toArray)) w:=by simp[execOp,he,Instr.loadAt,Instr.sureAddr,loadVar,ha,hs,hrun]
  rw[this];exact⟨g,_,H,.id,.agg _ _ (by simp;omega) (λi c v hc hv=>h3 g i c v hc (by simpa using hv)),s,rfl,rfl⟩
end
end
end Go.Proofs.YtojblnldfdeefaaGreatDoor
-- shim
