/-
  The lift, for every seat, without the evaluator's frame: a row with listed variables: the walk may lean on the shape of memory; what plain variables hold, as cells.
-/
import Derived.Test.YtojblnldfdeefaaGreatDoorA4
import Derived.Handed
import Derived.LaidLaws
import Derived.Shelf.Vars
import Derived.ChangeAt
namespace Go.Proofs.YtojblnldfdeefaaGreatDoor
open Go Go.RowKit
variable{H:Type}{enc:TypeId×Value→H}
theorem lift_and{a:Assume}{C:Checked}{os:Os}{f:FuncId}{fn:Func}{s:ChangeSpec}{conds:List PathCond}{apart fresh handsOn again:Bool}{X:World→Array Value→Prop}
    (hX:∀(w w':World)(args:Array Value),w.heap=w'.heap→X w args→X w' args)
    (own:ownKnob C.prog.godebug=none)(started:os.Started)(noInit:C.prog.inits.idxOf? f=none)(hfn:C.prog.funcs[f]?=some fn)
    (witness:∃(w:World)(tape:Tape)(i:Input),w.os=os∧(w.forCall tape i).Shaped C.prog∧i.vars=[]∧Input.okWide C.prog (w.forCall tape i) .any w.heap.size f i∧
      ((s.pre enc C.prog fn conds apart (w.forCall tape i).memory i.args∧X (w.forCall tape i).memory i.args)∧sizedMet enc C.prog fn (OpenSpec.ofChange s) apart (w.forCall tape i).memory i.args)∧a.holds C.prog (lone (Frame.enter C.prog f i.args .normal) [] (w.forCall tape i)))
    (contract:∀(W:World)(base:Nat)(args:Array Value)(ds gs:List (DataW H))(before:List MemPlace),W.ShapedOpen C.prog→
      (∀(j:Nat) t v,fn.params[j]?=some t→args[j]?=some v→Value.okWide C.prog W .any base t v)→
      DataW.Whole enc C.prog fn.params.toList s.vars apart W args.toList ds gs before→
      conds.all (PathCond.test C.prog ⟨fn.params.toList,ds,s.plain.varTypes C.prog,gs⟩)=true→
      (DataW.weightsEach C.prog (fn.params.toList++s.plain.varTypes C.prog) (ds++gs)).all (·≤reachBytes)=true→X W args→
      Calls C.prog f args W λe W'=>∃v,e= .returned v∧s.post enc C.prog fn apart fresh handsOn again W args v W'):
    ReturnsInHanded a C os f .any (λw args=>(s.pre enc C.prog fn conds apart w args∧X w args)∧sizedMet enc C.prog fn (OpenSpec.ofChange s) apart w args) (s.post enc C.prog fn apart fresh handsOn again):=by
  refine returnsInHanded_of_calls own started noInit witness ?_;intro w tape i _ hsh _ hok hpre _;obtain⟨_,_,_,fn',hfn',_,_,_,_,hval⟩:=hok;have e:fn'=fn:=Option.some.inj (hfn'.symm.trans hfn);subst e;obtain⟨⟨⟨ds,gs,before,hw,hc⟩,hx⟩,hz⟩:=hpre;have hw':=DataW.Whole.of_heap (w':=w.forCall tape i) (by rfl) hw;refine(contract (w.forCall tape i) w.heap.size i.args ds gs before hsh hval hw' hc (hz.weights hw) (hX _ _ _ (by rfl) hx)).mono λe W' ⟨v,he,hp⟩=>?_;subst he;exact ChangeSpec.post_blind hp
/-! ### plain variables as data -/
def contigB(P:Program):List Field→Nat→Option Nat
  | [],o=>some o
  |f::r,o=>if f.offset=o then contigB P r (o+P.cellsOf f.type)else none
def plainT(P:Program):Nat→TypeId→Bool
  |0,_=>false
  |n+1,t=>match P.underlying t with
    |some (.int _)|some .string|some .bool=>true
    |some (.array N e)=>plainT P n e&&Nat.beq (P.cellsOf t) (N*P.cellsOf e)
    |some (.struct fs)=>fs.toList.all (λf=>plainT P n f.type)&&(match contigB P fs.toList 0 with|some k=>Nat.beq k (P.cellsOf t)|none=>false)
    |_=>false
theorem cells_two{xs ys cs:List Value}{n:Nat}(h1:cs.take n=xs)(h2:cs.drop n=ys):cs=xs++ys:=by rw[←h1,←h2,List.take_append_drop]
variable{P:Program}{W:World}
theorem flat_array{n m e k:Nat}{cs:List Value}{fl:DataW Unit→Option (List Value)}(hp:P.cellsOf e=k)
    (ih:∀cs d p,DataW.trod (λ_=>()) P W 0 (λ_=>true) false m e cs=some (d,p)→∀xs,fl d=some xs→cs=xs):
    ∀(l:List (DataW Unit×List MemPlace))(i:Nat),i+l.length=n→cs.length=n*k→(∀j,j<l.length→DataW.trod (λ_=>()) P W 0 (λ_=>true) false m e ((cs.drop ((i+j)*k)).take k)=l[j]?)→
      ∀xs,(l.map (·.1)).foldr (λd r=>match fl d,r with|some x,some y=>some (x++y)|_,_=>none) (some [])=some xs→cs.drop (i*k)=xs
  | [],i,hi,hl,_,xs,hx=>by
    simp at hx hi;subst hx;subst hi;exact List.length_eq_zero_iff.1 (by simp[hl])
  |a::l,i,hi,hl,hg,xs,hx=>by
    simp only[List.map_cons,List.foldr_cons]at hx;split at hx
    · rename_i x y hx1 hx2
      cases hx
      simp only[List.length_cons]at hi;have h0:=hg 0 (by simp);simp only[Nat.add_zero,List.getElem?_cons_zero]at h0;have r1:=ih _ _ _ h0 _ hx1;have r2:=flat_array (n:=n) (m:=m) (e:=e) (k:=k) (cs:=cs) hp ih l (i+1) (by omega) hl (λj hj=>by
        have:=hg (j+1) (by simp;omega);simp only[List.getElem?_cons_succ]at this;rw[←this];congr 4;omega) y hx2
      refine cells_two (n:=k) r1 ?_;rw[List.drop_drop];rw[show i*k+k=(i+1)*k by rw[Nat.add_mul,Nat.one_mul]];exact r2
    cases hx
theorem flat_fields{m:Nat}{cs:List Value}{fl:DataW Unit→Option (List Value)}:
    ∀(fs:List Field)(l:List (DataW Unit×List MemPlace))(o:Nat),fs.length=l.length→contigB P fs o=some cs.length→
      (∀f,f∈fs→∀cs d p,DataW.trod (λ_=>()) P W 0 (λ_=>true) false m f.type cs=some (d,p)→∀xs,fl d=some xs→cs=xs)→
      (∀(j:Nat)(f:Field),fs[j]?=some f→DataW.trod (λ_=>()) P W 0 (λ_=>true) false m f.type ((cs.drop f.offset).take (P.cellsOf f.type))=l[j]?)→
      ∀xs,(l.map (·.1)).foldr (λd r=>match fl d,r with|some x,some y=>some (x++y)|_,_=>none) (some [])=some xs→cs.drop o=xs
  | [],l,o,hl,hc,_,_,xs,hx=>by
    have hl':l=[]:=List.length_eq_zero_iff.1 hl.symm;subst hl';simp at hx;subst hx;have hc:o=cs.length:=Option.some.inj hc;exact List.length_eq_zero_iff.1 (by simp[hc])
  |f::fs,[],o,hl,_,_,_,xs,hx=>by simp at hl
  |f::fs,a::l,o,hl,hc,ih,hg,xs,hx=>by
    unfold contigB at hc;split at hc
    · rename_i ho
      simp only[List.map_cons,List.foldr_cons]at hx;split at hx
      · rename_i x y hx1 hx2
        cases hx
        have h0:=hg 0 f rfl;simp only[List.getElem?_cons_zero]at h0;have r1:=ih f (by simp) _ _ _ h0 _ hx1;have r2:=flat_fields (m:=m) (cs:=cs) fs l (o+P.cellsOf f.type) (by simpa using hl) hc (λf hf=>ih f (by simp[hf])) (λj f hf=>by
          have:=hg (j+1) f (by simpa using hf);simpa using this) y hx2
        rw[ho]at r1;refine cells_two (n:=P.cellsOf f.type) r1 ?_;rw[List.drop_drop];exact r2
      cases hx
    cases hc
theorem flat_of_trod:∀(n fuel:Nat)(t:TypeId)(cs:List Value)(d:DataW Unit)(p:List MemPlace),plainT P n t=true→DataW.trod (λ_=>()) P W 0 (λ_=>true) false fuel t cs=some (d,p)→∀xs,flatV n d=some xs→cs=xs
  |0,_,_,_,_,_,ht,_,_,_=>by cases ht
  |n+1,fuel,t,cs,d,p,ht,h,xs,hx=>by
    unfold plainT at ht;split at ht
    · rename_i k hu
      obtain⟨m,rfl,e,_⟩:=DataW.trod_int hu h;cases e;cases hx
      rfl
    · rename_i hu
      obtain⟨s,rfl,e,hs⟩:=DataW.trod_string hu h;cases e;cases hx
      rfl
    · rename_i hu
      obtain⟨b,rfl,e⟩:=DataW.trod_bool hu h;cases e;cases hx
      rfl
    · rename_i N e hu
      simp only[Bool.and_eq_true]at ht;obtain⟨l,m,_,e1,hl,hn,hg⟩:=DataW.trod_array hu h;cases e1
      have ht2:=Nat.eq_of_beq_eq_true ht.2;have:=flat_array (n:=N) (m:=m) (e:=e) (k:=P.cellsOf e) (cs:=cs) (fl:=flatV n) rfl (λcs d p hd xs hxs=>flat_of_trod n m e cs d p ht.1 hd xs hxs) l 0 (by omega) (by rw[hl,ht2]) (λj hj=>by
        rw[Nat.zero_add];exact hg j (by omega)) xs hx
      simpa using this
    · rename_i fs hu
      simp only[Bool.and_eq_true]at ht;obtain⟨l,m,_,e1,hl,hn,hg⟩:=DataW.trod_struct hu h;cases e1
      have hc:=ht.2;split at hc<;>first|(cases hc;done)|skip
      rename_i k hk
      have hk':=Nat.eq_of_beq_eq_true hc;have:=flat_fields (m:=m) (cs:=cs) (fl:=flatV n) (P:=P) (W:=W) fs.toList l 0 (by simp[hn]) (by rw[hk,hl,hk']) (λf hf cs d p hd xs hxs=>flat_of_trod n m f.type cs d p (by
          have:=List.all_eq_true.1 ht.1 f hf;exact this) hd xs hxs) (λj f hf=>hg j f (by simpa using hf)) xs hx
      simpa using this
    cases ht
theorem laid_cons{n:String}{d:DataW Unit}{r:List (String×DataW Unit)}{ps:List MemPlace}(h:DataW.LaidVars P W ((n,d)::r) ps){b:Nat}(hb:P.globalNamed n=some b){t:TypeId}(ht:(P.globals[b]?).map (·.type)=some t):
    (∃fuel p vs T fz,W.heap[b]?=some (.cells vs T fz)∧DataW.trod (λ_=>()) P W 0 (λ_=>true) false fuel t vs.toList=some (d,p))∧∃q,DataW.LaidVars P W r q:=by
  obtain⟨g',t',cs,fuel,p,q,h1,h2,h3,h4,h5,_⟩:=h;cases hb.symm.trans h1
  cases ht.symm.trans h2
  refine⟨?_,q,h5⟩;unfold World.var? at h3;rw[h1]at h3;simp only[Option.bind_some]at h3;split at h3
  · rename_i cs' T fz hh
    cases h3
    exact⟨fuel,p,cs,T,fz,hh,h4⟩
  cases h3
theorem laid_plain{n:String}{d:DataW Unit}{r:List (String×DataW Unit)}{ps:List MemPlace}(h:DataW.LaidVars P W ((n,d)::r) ps){b:Nat}(hb:P.globalNamed n=some b){t:TypeId}(ht:(P.globals[b]?).map (·.type)=some t)(m:Nat)(hp:plainT P m t=true){xs:List Value}(hx:flatV m d=some xs):
    (∃T fz,W.heap[b]?=some (.cells xs.toArray T fz))∧∃q,DataW.LaidVars P W r q:=by
  obtain⟨⟨fuel,p,vs,T,fz,h1,h2⟩,k⟩:=laid_cons h hb ht;have e:vs=xs.toArray:=by rw[←flat_of_trod m fuel t vs.toList d p hp h2 xs hx]
  exact⟨⟨T,fz,by rw[h1,e]⟩,k⟩
end Go.Proofs.YtojblnldfdeefaaGreatDoor
namespace Go.Proofs.YtojblnldfdeefaaGreatDoor
open Go Go.ChangeShapes Go.WideShapes Go.ChangeAt Go.RowKit
theorem Tryz.own:ownKnob Tryz.prog.godebug=none:=by kernel_rfl
theorem Tryz.laidOut:laidOutB Tryz.prog=true:=by kernel_rfl
def laidL:List (String×DataW Unit):=Rows.funcsSumsRow.laid
theorem laid_none:(laidL.filter λx=>x.2.handleName?.isSome)=[]:=by kernel_rfl
theorem laid_met{W:World}(h:laidMetH Tryz.prog laidL W):laidMet Tryz.prog laidL W:=by
  unfold laidMetH at h;rw[laid_none]at h;exact h
theorem trod_held{P:Program}{W:World}{sp:Nat→Bool}{t:TypeId}{ms:Array (String×TypeId)}(ht:P.underlying t=some (.interface ms)){n:Nat}{cs:List Value}{nm:String}{d:DataW Unit}{pe:List MemPlace}
    (h:DataW.trod (λ_=>()) P W 0 sp false n t cs=some (.iface nm d,pe)):∃u v,cs=[.iface u v]:=by
  cases n with
  |zero=>simp[DataW.trod]at h
  |succ n=>
    match cs,h with
    | [],h=>simp[DataW.trod,ht]at h
    | [E],h=>
      cases E with
      |nilIface=>simp[DataW.trod,ht]at h
      |iface u v=>exact⟨u,v,rfl⟩
      |_=>simp[DataW.trod,ht]at h
    |_::_::_,h=>simp[DataW.trod,ht]at h
theorem iface_cell{W:World}{n:Nat}(h:∃fuel p vs T fz,W.heap[n]?=some (.cells vs T fz)∧DataW.trod (λ_=>()) Tryz.prog W 0 (λ_=>true) false fuel 255 vs.toList=some p∧∃nm d,p.1= .iface nm d):∃te pe,W.cell? ⟨n,0,none⟩=some (.iface te pe):=by
  obtain⟨fuel,⟨d0,pe⟩,vs,T,fz,h1,h2,nm,d,rfl⟩:=h;obtain⟨u,v,hc⟩:=trod_held Tryz.underlying255 h2;refine⟨u,v,?_⟩;unfold World.cell?;rw[h1];have:vs= #[.iface u v]:=by rw[←Array.toList_inj];exact hc
  rw[this];rfl
theorem max_glob:9<Tryz.prog.globals.size:=of_decide_eq_true (by kernel_rfl)
theorem max_row:((begin Tryz.prog (λ_ _=>0) default).world.heap[9]?).bind Obj.row?=some (#[.int .i64 0],3):=by kernel_rfl
theorem max_build:Tryz.prog.buildable 3=true:=by kernel_rfl
theorem max_types:Tryz.prog.cellTypes Tryz.prog.depth 3=some [3]:=by kernel_rfl
theorem max_cell{W:World}(hs:W.ShapedOpen Tryz.prog):∃m,W.cell? ⟨9,0,none⟩=some (.int .i64 m):=cell_of_shapedOpen_int hs max_glob max_row rfl max_build max_types Tryz.underlying3
theorem pow_is:flatV 4 Rows.laid_internal_strconv_uint64pow10=some (Lib.pow10Tab.map λz=>Value.int .u64 z):=by kernel_rfl
def Holds(W:World)(n:Nat)(d:DataW Unit):Prop:=∀xs,flatV 4 d=some xs→∃T fz,W.heap[n]?=some (.cells xs.toArray T fz)
set_option maxRecDepth 1000000 in
theorem some0:(flatV 4 Rows.laid_math_bits_deBruijn64tab).isSome=true:=by kernel_rfl
theorem Inv_of{W:World}(hs:W.ShapedOpen Tryz.prog)(hL:laidMetH Tryz.prog laidL W):Inv W:=by
  obtain⟨ps,h,_,_⟩:=laid_met hL;have p11:Holds W 11 Rows.laid_math_bits_deBruijn32tab:=λxs hx=>(laid_plain h (b:=11) (by kernel_rfl) (t:=469) (by kernel_rfl) 4 (by kernel_rfl) hx).1;obtain⟨_,_,h⟩:=laid_cons h (b:=11) (by kernel_rfl) (t:=469) (by kernel_rfl);have p12:Holds W 12 Rows.laid_math_bits_deBruijn64tab:=λxs hx=>(laid_plain h (b:=12) (by kernel_rfl) (t:=470) (by kernel_rfl) 4 (by kernel_rfl) hx).1;obtain⟨_,_,h⟩:=laid_cons h (b:=12) (by kernel_rfl) (t:=470) (by kernel_rfl);have p10:Holds W 10 Rows.laid_internal_strconv_uint64pow10:=λxs hx=>(laid_plain h (b:=10) (by kernel_rfl) (t:=457) (by kernel_rfl) 4 (by kernel_rfl) hx).1;obtain⟨_,_,h⟩:=laid_cons h (b:=10) (by kernel_rfl) (t:=457) (by kernel_rfl);have p6:Holds W 6 Rows.laid_unicode_utf8_acceptRanges:=λxs hx=>(laid_plain h (b:=6) (by kernel_rfl) (t:=409) (by kernel_rfl) 4 (by kernel_rfl) hx).1;obtain⟨_,_,h⟩:=laid_cons h (b:=6) (by kernel_rfl) (t:=409) (by kernel_rfl);obtain⟨⟨f8,q8,v8,T8,z8,a8,b8⟩,_,h⟩:=laid_cons h (b:=8) (by kernel_rfl) (t:=255) (by kernel_rfl);obtain⟨⟨f7,q7,v7,T7,z7,a7,b7⟩,_,h⟩:=laid_cons h (b:=7) (by kernel_rfl) (t:=255) (by kernel_rfl);have p0:Holds W 0 Rows.laid_tabard_locale_names:=λxs hx=>(laid_plain h (b:=0) (by kernel_rfl) (t:=53) (by kernel_rfl) 4 (by kernel_rfl) hx).1;obtain⟨_,_,h⟩:=laid_cons h (b:=0) (by kernel_rfl) (t:=53) (by kernel_rfl);have p1:Holds W 1 Rows.laid_tabard_locale_signs:=λxs hx=>(laid_plain h (b:=1) (by kernel_rfl) (t:=55) (by kernel_rfl) 4 (by kernel_rfl) hx).1;obtain⟨_,_,h⟩:=laid_cons h (b:=1) (by kernel_rfl) (t:=55) (by kernel_rfl);have p2:Holds W 2 Rows.laid_tabard_funcs_names:=λxs hx=>(laid_plain h (b:=2) (by kernel_rfl) (t:=62) (by kernel_rfl) 4 (by kernel_rfl) hx).1;obtain⟨_,_,h⟩:=laid_cons h (b:=2) (by kernel_rfl) (t:=62) (by kernel_rfl);have p5:Holds W 5 Rows.laid_unicode_utf8_first:=λxs hx=>(laid_plain h (b:=5) (by kernel_rfl) (t:=406) (by kernel_rfl) 4 (by kernel_rfl) hx).1;exact{
    rows:=λn d hn xs hx=>by
      simp only[laidT,List.mem_cons,Prod.mk.injEq,List.not_mem_nil,or_false]at hn;rcases hn with⟨rfl,rfl⟩|⟨rfl,rfl⟩|⟨rfl,rfl⟩|⟨rfl,rfl⟩|⟨rfl,rfl⟩|⟨rfl,rfl⟩|⟨rfl,rfl⟩|⟨rfl,rfl⟩
      · exact p0 xs hx
      · exact p1 xs hx
      · exact p2 xs hx
      · exact p5 xs hx
      · exact p6 xs hx
      · exact p10 xs hx
      · exact p11 xs hx
      exact p12 xs hx
    tab:=by
      obtain⟨T,fz,e⟩:=p10 _ pow_is;exact⟨T,fz,e⟩
    errs:=λn hn=>by
      rcases hn with rfl|rfl
      · exact iface_cell ⟨f7,_,v7,T7,z7,a7,b7,_,_,rfl⟩
      exact iface_cell ⟨f8,_,v8,T8,z8,a8,b8,_,_,rfl⟩
    max:=max_cell hs
    size:=by
      obtain⟨x9,h9⟩:=Option.isSome_iff_exists.1 some0;obtain⟨_,_,e⟩:=p12 x9 h9;have:=(Array.getElem?_eq_some_iff.1 e).1;omega}
/-! ### a world that fits -/
noncomputable def low:Nat:=(World.holding Tryz.prog default ⟨#[],#[],[]⟩).heap.size
noncomputable def lay(h:Array Obj)(b:Nat)(vs:Array Value):Array Obj:=h.modify b fun
  | .cells _ t fz=>.cells vs t fz
  |o=>o
noncomputable def laidWorld(os:Os):World:=
  let w0:=World.holding Tryz.prog os ⟨#[.cells #[.string ⟨#[118,97,108,117,101,32,111,117,116,32,111,102,32,114,97,110,103,101]⟩] 441,.cells #[.string ⟨#[105,110,118,97,108,105,100,32,115,121,110,116,97,120]⟩] 441],#[],[]⟩
  let h:=w0.heap
  let h:=lay h 11 ((flatV 4 Rows.laid_math_bits_deBruijn32tab).getD []).toArray
  let h:=lay h 12 ((flatV 4 Rows.laid_math_bits_deBruijn64tab).getD []).toArray
  let h:=lay h 10 ((flatV 4 Rows.laid_internal_strconv_uint64pow10).getD []).toArray
  let h:=lay h 6 ((flatV 4 Rows.laid_unicode_utf8_acceptRanges).getD []).toArray
  let h:=lay h 0 ((flatV 4 Rows.laid_tabard_locale_names).getD []).toArray
  let h:=lay h 1 ((flatV 4 Rows.laid_tabard_locale_signs).getD []).toArray
  let h:=lay h 2 ((flatV 4 Rows.laid_tabard_funcs_names).getD []).toArray
  let h:=lay h 5 ((flatV 4 Rows.laid_unicode_utf8_first).getD []).toArray
  let h:=lay h 8 #[.iface 439 (.pointer (some ⟨low,0,none⟩))]
  let h:=lay h 7 #[.iface 439 (.pointer (some ⟨low+1,0,none⟩))]
  {w0 with heap:=h}
set_option maxRecDepth 1000000 in
theorem laidWorld_met(os:Os)(args:Array Value):laidMetH Tryz.prog laidL ((laidWorld os).forCall (λ_ _=>0) ⟨#[],args,[]⟩).memory:=
  laidMet_of_run' 8 (by kernel_rfl) (by kernel_rfl)
end Go.Proofs.YtojblnldfdeefaaGreatDoor
namespace Go.Proofs.YtojblnldfdeefaaGreatDoor
open Go Go.ChangeShapes Go.WideShapes Go.ChangeAt Go.RowKit
theorem wf64{n:Int}(h:(Lit.int .u64 n).wf=true):0≤n∧n<18446744073709551616:=by
  simp[Lit.wf,IntKind.min,IntKind.max,IntKind.bits,IntKind.signed]at h;omega
theorem wfi64{n:Int}(h:(Lit.int .i64 n).wf=true): -9223372036854775808≤n∧n≤9223372036854775807:=by
  simp[Lit.wf,IntKind.min,IntKind.max,IntKind.bits,IntKind.signed]at h;omega
theorem cellOf25:Tryz.prog.cellsOf 25=1:=by kernel_rfl
theorem u_map{u:List Int}(h:∀n,n∈u→0≤n∧n<18446744073709551616):u.map (AV.int .u64)=U .u64 (u.map Int.toNat):=by
  unfold U;rw[List.map_map];exact List.map_congr_left λn hn=>by show _=AV.int .u64 ((n.toNat:Nat):Int);rw[Int.toNat_of_nonneg (h n hn).1]
theorem rd_u64s{W:World}{hI:Inv W}:Rd Tryz.prog W hI 22 (λl:List Int=>.slice 1 (l.map (AV.int .u64)) .shared) (λl=>l.length≤maxLen∧∀n,n∈l→(Lit.int .u64 n).wf=true):=
  rd_slice (hI:=hI) (sz:=1) Tryz.underlying22 cellOf25 (by omega) (λq=>⟨rfl,rfl⟩) (rd_int (hI:=hI) Tryz.underlying25)
end Go.Proofs.YtojblnldfdeefaaGreatDoor
