import Derived.Test.YteedncdcbgplfaaGreatDoorS5
import Derived.Lib.Bytealg
namespace Go.Proofs.YteedncdcbgplfaaGreatDoor
open Go.Proofs.Tryz
open Go Go.RowKit
variable{g:G}{H:Heap}{w:World}{b c j n o r t:Nat}{v:Value}{D E S T T':TypeId}{i x y:Operand}{l:List UInt8}{tl:Tail}{k k':IntKind}{ti:TypeInfo}{xs ys:List Nat}{Q:Exit→Env→Heap→Prop}{m:Int}{env:Env}{d:Tmp}{R:AV→Heap→Prop}{K:Env→Heap→Prop}{want:Bool}
section
def bv(b:UInt8):AV:=.int .u8 ((b.toNat:Nat):Int)
theorem Sat.new_row_at(h:Sat g H w)(T:TypeId){cs:List AV}{vs:Array Value}{fz:Nat×Nat}(ht:cmQ vs.size fz)(hr:RelCells g cs vs):
  Sat g (H.set w.heap.size (.box T cs)) (w.alloc (.cells vs T fz)):=
 (h.alloc (.cells vs T fz)).claim (by have:=h.below.size;exact this) h.imm_new h.tok_new (.box T cs) ⟨vs,⟨fz,acM _ _,ht⟩,hr⟩
theorem aoQ{α:Type}{l:List α}{f:α→AV}{h:α→Value}(hr:∀a,RelV g (f a) (h a)):RelCells g (l.map f) (l.map h).toArray:=by
 refine⟨by simp,λi c v hc hv=>?_⟩;rw[cT]at hc;simp only[List.getElem?_toArray,cT]at hv;cases hi:l[i]? with
 |none=>rw[hi]at hc;cases hc
 |some a=>rw[hi]at hc hv;cases hc;cases hv;exact hr a
theorem agK{c:AV}(hr:RelV g c v):RelCells g (List.replicate n c) (Array.replicate n v):=by
 refine⟨by simp,λi x u hx hu=>?_⟩;simp only[gF]at hx;simp only[Array.getElem?_replicate]at hu;split at hx
 ·rename_i hi;rw[aN hi]at hu;cases hx;cases hu;exact hr
 cases hx
section
variable{P:Program}{env:Env}{H:Heap}{dst:Option Tmp}{ty:TypeId}{pos:String}{af:Array Edge}{gd:Option (Nat×Bool)}
theorem auP{s:List UInt8}(u1:P.underlying S=some .string)(u2:P.underlying D=some (.slice E))(u3:P.underlying E=some (.int .u8))(hx:Ev env x (.str s))(hl:s.length≤16777216):
  AStep P ⟨dst,.convert S D x,ty,pos,af,gd⟩ env H (λy H'=>∃b c,y= .mslice (some ⟨b,0,none⟩) s.length c∧s.length≤c∧c≤maxLen∧H.objs b=none∧H'=H.set b (.box E (s.map bv++List.replicate (c-s.length) (.int .u8 0)))):=by
 intro g n a w ka st;obtain⟨v,he,hv⟩:=ev1 hx ka;cases hv with
 |str s hs=>
  have hrun:=run_bytes_of_string (P:=P) w S D E ⟨s.toArray⟩ u1 u2 u3;rw[bmk]at hrun
  let nc:=grownCap w s.length 0 E
  have hnc:s.length≤nc∧nc≤maxLen:=by
   show s.length≤s.length+_%(2^63-s.length)∧_;refine⟨gV _ _,?_⟩;show s.length+w.tape w.drawn (.appendCap s.length 0 E)%(2^63-s.length)≤maxLen;have:w.tape w.drawn (.appendCap s.length 0 E)%(2^63-s.length)<2^63-s.length:=bR _ aA;unfold maxLen;omega
  have:(execOp a.eval ⟨dst,.convert S D x,ty,pos,af,gd⟩).run P w= .ok (.value (.slice (some ⟨w.heap.size,0,none⟩) s.length nc)) (w.drew.alloc (.cells (bytesRow ⟨s.toArray⟩ nc) E ((bytesRow ⟨s.toArray⟩ nc).size,(bytesRow ⟨s.toArray⟩ nc).size+1))):=by
   simp[execOp,he,hrun];exact⟨rfl,rfl⟩
  rw[this];have hrel:RelCells g (s.map bv++List.replicate (nc-s.length) (.int .u8 0)) (bytesRow ⟨s.toArray⟩ nc):=by
   unfold bytesRow;refine RelCells.append ?_ (agK (.int _ _));have:=aoQ (g:=g) (l:=s) (f:=bv) (h:=λb=>Value.int .u8 b.toNat) (λb=>.int _ _);simpa using this
  exact⟨g,_,_,.id,.mslice _ _ _,st.drew.new_row_at E (.inr (aZ _)) hrel,_,_,rfl,hnc.1,hnc.2,st.new_none,rfl⟩
theorem bgZ{us:Array Value}(h:RelCells g (l.map bv) us):us=(l.map λb=>Value.int .u8 (b.toNat:Int)).toArray:=by
 apply Array.ext_getElem?;intro i;by_cases hi:i<l.length
 ·have h1:(l.map bv)[i]?=some (bv l[i]):=by simp[hi]
  obtain⟨v,hv,hr⟩:=h.at h1;cases hr
  rw[hv];simp[hi]
 have:=h.1;rw[gJ (by simp at this;omega),gJ aG]
theorem axJ{a:Addr}{cap:Nat}(u1:P.underlying S=some (.slice E))(u2:P.underlying D=some .string)(u3:P.underlying E=some (.int .u8))
  (h:(loadCells a l.length).run P w= .ok (l.map λb=>Value.int .u8 (b.toNat:Int)).toArray w):(convert S D (.slice (some a) l.length cap)).run P w= .ok (.string ⟨l.toArray⟩) w:=by
 rw[run_convert_bytes_string (P:=P) w S D E (some a) l.length cap u1 u3 u2];have:=run_bytesToString (P:=P) w a l.length cap (l.map λb=>(b.toNat:Int)) (by rw[h];simp[Function.comp_def]);rw[this,foldl_push_byteCells];simp[ByteArray.empty,ByteArray.emptyWithCapacity];rfl
theorem baD{cs:List AV}(u1:P.underlying S=some (.slice E))(u2:P.underlying D=some .string)(u3:P.underlying E=some (.int .u8))
  (hx:Ev env x (.mslice (some ⟨b,o,none⟩) n c))(hb:H.objs b=some (.box T cs))(hn:l.length=n)(hc:(cs.drop o).take n=l.map bv)(hl:n≤maxLen):
  AStep P ⟨dst,.convert S D x,ty,pos,af,gd⟩ env H (λy H'=>y= .str l∧H'=H):=by
 subst hn;intro g n a w ka st;obtain⟨v,he,hv⟩:=ev1 hx ka;cases hv
 have hlen:l=[]∨o+l.length≤cs.length:=by
  have:=congrArg List.length hc;simp only[aV,bO,cE]at this;rcases bF l.length with h|h
  ·exact .inl (dI.1 h)
  exact .inr aA
 have hload:(loadCells ⟨b,o,none⟩ l.length).run P w= .ok (l.map λb=>Value.int .u8 (b.toNat:Int)).toArray w:=by
  rcases hlen with rfl|hlen
  ·rfl
  obtain⟨us,h1,h2⟩:=apV (P:=P) st hb hlen;rw[hc]at h2;rw[h1,bgZ h2]
 have hr:=axJ (cap:=c) u1 u2 u3 hload;have:(execOp a.eval ⟨dst,.convert S D x,ty,pos,af,gd⟩).run P w= .ok (.value (.string ⟨l.toArray⟩)) w:=by simp[execOp,he,hr]
 rw[this];exact⟨g,_,H,.id,.str _ hl,st,rfl,rfl⟩
theorem auO(u1:P.underlying S=some (.slice E))(u2:P.underlying D=some .string)(u3:P.underlying E=some (.int .u8))
  (hx:Ev env x (.slice 1 (l.map bv) tl)):AStep P ⟨dst,.convert S D x,ty,pos,af,gd⟩ env H (λy H'=>y= .str l∧H'=H):=by
 intro g n a w ka st;obtain⟨v,he,hv⟩:=ev1 hx ka;generalize hm:l.map bv=xs at hv;have out:∀v,a.eval x=v→l.length≤maxLen→(convert S D v).run P w= .ok (.string ⟨l.toArray⟩) w→(execOp a.eval ⟨dst,.convert S D x,ty,pos,af,gd⟩).run P w= .ok (.value (.string ⟨l.toArray⟩)) w:=by
  intro v he _ hr;simp[execOp,he,hr]
 cases hv with
 |nilSlice=>
  have hl:l=[]:=by simpa using hm
  subst hl;have hr:(convert S D (.slice none 0 0)).run P w= .ok (.string ⟨[].toArray⟩) w:=by
   rw[run_convert_bytes_string (P:=P) w S D E none 0 0 u1 u3 u2];rfl
  rw[out _ he (Nat.zero_le _) hr];exact⟨g,_,H,.id,.str _ (Nat.zero_le _),st,rfl,rfl⟩
 |voidSlice sz ad=>
  have hl:l=[]:=by simpa using hm
  subst hl;have hr:=axJ (P:=P) (w:=w) (l:=[]) (cap:=0) (a:=ad) u1 u2 u3 rfl;rw[out _ he (Nat.zero_le _) hr];exact⟨g,_,H,.id,.str _ (Nat.zero_le _),st,rfl,rfl⟩
 |slice sz xs tl b off cap vs hsz hi hr hlen hcap htl=>
  subst hm;have hll:l.length≤maxLen:=by simp at hlen;omega
  have hcell:∀i,(h:i<l.length)→w.cell? ⟨b,off+i,none⟩=some (.int .u8 (l[i].toNat:Int)):=by
   intro i h;have h1:=st.imm _ _ _ (hi i (by simpa using h));have h2:=hr i 0 (bv l[i]) (bv l[i]) (by simp[h]) (by simp[bv,AV.cells]);rw[fB,cA]at h2;generalize vs i=u at h1 h2;cases h2
   exact h1
  have hload:(loadCells ⟨b,off,none⟩ l.length).run P w= .ok (l.map λb=>Value.int .u8 (b.toNat:Int)).toArray w:=by
   have:=run_loadCells_list (P:=P) (w:=w) ⟨b,off,none⟩ (l.map λb=>Value.int .u8 (b.toNat:Int)) (λj v hj=>by
     rw[Addr.add_off];rw[cT]at hj;obtain⟨c,hc,rfl⟩:=gL.1 hj;obtain⟨h,rfl⟩:=bT.1 hc;exact hcell j h)
   simpa using this
  have hr:=axJ (cap:=cap) u1 u2 u3 hload;rw[out _ he hll (by simpa using hr)];exact⟨g,_,H,.id,.str _ hll,st,rfl,rfl⟩
/-! ### new rows of numbers -/
theorem atU{l c:Operand}{m:Nat}(hu:P.underlying T=some (.slice E))(hti:∀w,(typeInfo E).run P w= .ok ti w)(hs:∀w,(sizeOf E).run P w= .ok 1 w)(hz:∀w,(zeroValue E).run P w= .ok (.int k 0) w)
  (hl:Ev env l (.int .i64 (m:Int)))(hc:Ev env c (.int .i64 (m:Int)))(hb:ti.bytes≤64)(hm:m≤1000000000):
  AStep P ⟨dst,.makeSlice T l c,ty,pos,af,gd⟩ env H (λy H'=>∃b,y= .mslice (some ⟨b,0,none⟩) m m∧H.objs b=none∧H'=H.set b (.box E (List.replicate m (.int k 0)))):=by
 intro g n a w ka st;obtain⟨v1,he1,hv1⟩:=ev1 hl ka;obtain⟨v2,he2,hv2⟩:=ev1 hc ka;cases hv1;cases hv2
 have hun:∀w,(underlying T).run P w= .ok (.slice E) w:=λw=>run_underlying hu w;have w0:IntKind.i64.wrap ((m:Nat):Int)=(m:Int):=by simp[IntKind.wrap,IntKind.bits,IntKind.signed];omega
 have hbytes:ti.bytes*m≤64*1000000000:=eN hb hm;have hrun:(execOp a.eval ⟨dst,.makeSlice T l c,ty,pos,af,gd⟩).run P w= .ok (.value (.slice (some ⟨w.heap.size,0,none⟩) m m)) (w.alloc (.cells (Array.replicate m (.int k 0)) E)):=by
  simp only[execOp,Instr.makeSlice,he1,he2];simp only[Sem.run_bind,hun,Result.andThen_ok,asInt,asIntOf,Sem.run_pure,hti,w0];have n1:¬((m:Int)<0):=by omega
  have n2:¬((281474976710656:Int)<(ti.bytes:Int)*(m:Int)):=by
   have:(ti.bytes:Int)*(m:Int)=((ti.bytes*m:Nat):Int):=by simp
   rw[this];omega
  have n5:¬(m*ti.bytes>roomBytes):=by unfold roomBytes;rw[bM];omega
  have n6:¬((m:Int)<(m:Int)):=by omega
  simp[n1,n2,askRoom,n5,hs];by_cases e0:m=0
  ·subst e0;simp[newRow];rw[show Array.range 0= #[]from rfl];simp
  simp[hz,newRow,e0];have:(Array.map (λx=>(Value.int k 0).cells[x%(Value.int k 0).cells.size]!) (Array.range m))=Array.replicate m (Value.int k 0):=by
   apply Array.ext
   ·simp
   intro i h1 h2;simp[Value.cells,Nat.mod_one]
  have hzc:(Value.int k 0).cells.size=1:=rfl;rw[hzc]at this;simp only[hzc,this]
 rw[hrun];exact⟨g,_,_,.id,.mslice _ _ _,st.new_box E (agK (.int _ _)),_,rfl,st.new_none,rfl⟩
/-! ### ranging over a text -/
theorem blP{s:List UInt8}(hu:P.underlying T=some .string)(hx:Ev env x (.str s)):
  AStep P ⟨dst,.range T x,ty,pos,af,gd⟩ env H (λy H'=>∃b,y= .ptr (some ⟨b,0,none⟩)∧H.objs b=none∧H'=H.set b (.raw (.stringIter ⟨s.toArray⟩ 0))):=by
 intro g n a w ka st;obtain⟨v,he,hv⟩:=ev1 hx ka;cases hv
 have u1:∀w,(underlying T).run P w= .ok .string w:=λw=>run_underlying hu w;have:(execOp a.eval ⟨dst,.range T x,ty,pos,af,gd⟩).run P w= .ok (.value (.pointer (some ⟨w.heap.size,0,none⟩))) (w.alloc (.stringIter ⟨s.toArray⟩ 0)):=by simp[execOp,he,Instr.range,u1]
 rw[this];exact⟨g,_,_,.id,.ptr _,st.new_raw _,_,rfl,st.new_none,rfl⟩
theorem aqR{p:Nat}{s:ByteArray}(h:w.heap[r]?=some (.stringIter s p)):(getObj r).run P w= .ok (.stringIter s p) w:=by simp[getObj,Sem.run,h]
theorem beH{p:Nat}{s:ByteArray}(o:Obj)(h:w.heap[r]?=some (.stringIter s p)):(setObj r o).run P w= .ok () {w with heap:=w.heap.setIfInBounds r o}:=by simp[setObj,Sem.run,h]
theorem brE{p:Nat}{s:List UInt8}(hx:Ev env x (.ptr (some ⟨b,0,none⟩)))(hb:H.objs b=some (.raw (.stringIter ⟨s.toArray⟩ p))):
  AStep P ⟨dst,.next x true,ty,pos,af,gd⟩ env H (λy H'=>∃q,y= .tuple (.bool (decide (p<s.length))::q)∧(p<s.length→q=[.int .i64 p,.int .i32 (Utf8.decode ⟨s.toArray⟩ p).1]∧H'=H.set b (.raw (.stringIter ⟨s.toArray⟩ (p+(Utf8.decode ⟨s.toArray⟩ p).2))))∧(¬p<s.length→q=[]∧H'=H)):=by
 intro g n a w ka st;obtain⟨v,he,hv⟩:=ev1 hx ka;cases hv
 have hw:=st.raw b _ hb;have hlt:b<w.heap.size:=(cG.1 hw).1;have hsz:=bmk s;by_cases hp:p<s.length
 ·have:(execOp a.eval ⟨dst,.next x true,ty,pos,af,gd⟩).run P w= .ok (.value (.tuple #[.bool true,goInt p,.int .i32 (Utf8.decode ⟨s.toArray⟩ p).1])) {w with heap:=w.heap.setIfInBounds b (.stringIter ⟨s.toArray⟩ (p+(Utf8.decode ⟨s.toArray⟩ p).2))}:=by
   simp[execOp,he,Instr.next,aqR hw,beH _ hw,hsz,hp]
  rw[this];refine⟨g,.tuple [.bool true,.int .i64 p,.int .i32 (Utf8.decode ⟨s.toArray⟩ p).1],_,.id,.tuple _ _ rfl λi c u hc hu=>?_,st.turn hb (λj hj=>?_) aF rfl rfl rfl (x':=.raw (.stringIter ⟨s.toArray⟩ (p+(Utf8.decode ⟨s.toArray⟩ p).2))) (by simp[hlt]),_,by rw[aU hp],λ_=>⟨rfl,rfl⟩,λh=>absurd hp h⟩
  ·match i with
   |0=>simp at hc hu;subst hc;subst hu;exact .bool _
   |1=>simp at hc hu;subst hc;subst hu;exact .int _ _
   |2=>simp at hc hu;subst hc;subst hu;exact .int _ _
   |i+3=>simp at hc
  simp only[eO];rw[aM (Ne.symm hj)]
 have:(execOp a.eval ⟨dst,.next x true,ty,pos,af,gd⟩).run P w= .ok (.value (.tuple #[.bool false])) w:=by
  simp[execOp,he,Instr.next,aqR hw,hsz,hp]
 rw[this];refine⟨g,.tuple [.bool false],H,.id,.tuple _ _ rfl λi c u hc hu=>?_,st,_,by rw[aS hp],λh=>absurd h hp,λ_=>⟨rfl,rfl⟩⟩
 match i with
 |0=>simp at hc hu;subst hc;subst hu;exact .bool _
 |i+1=>simp at hc
end
end
section
open Go Go.RowKit
def IsExt(P:Program)(f:FuncId)(e:Array Value→Sem Value):Prop:=
 ∃fn,P.funcs[f]?=some fn∧(fn.name=="runtime.NumGoroutine")=false∧fn.body.isNone=true∧Extern.findNext fn=none∧Extern.find fn=some e
theorem IsExt.run{P:Program}{f:FuncId}{e:Array Value→Sem Value}(h:IsExt P f e)(args:Array Value)(w:World):(callFunc f args).run P w=((e args).run P w).andThen λv w'=>.ok (.value v) w':=by
 obtain⟨fn,h1,h2,h3,h4,h5⟩:=h;exact run_callFunc_extern h1 h2 h3 h4 h5 args w
theorem RelVs.nil{g:G}{vs:List Value}(h:RelVs g [] vs):vs=[]:=by
 have:=h.1;cases vs with
 |nil=>rfl
 |cons=>simp at this
theorem RelVs.cons{g:G}{x:AV}{xs:List AV}{vs:List Value}(h:RelVs g (x::xs) vs):∃v us,vs=v::us∧RelV g x v∧RelVs g xs us:=by
 obtain⟨h1,h2⟩:=h;cases vs with
 |nil=>simp at h1
 |cons v us=>exact⟨v,us,rfl,h2 0 x v rfl rfl,by simpa using h1,λi y u hy hu=>h2 (i+1) y u (by simpa using hy) (by simpa using hu)⟩
theorem RelV.two{x y:AV}{u:Value}(h:RelV g x v)(k:RelV g y u):RelV g (.tuple [x,y]) (.tuple #[v,u]):=by
 refine .tuple _ _ rfl λi c z hc hz=>?_
 match i with
 |0=>simp at hc hz;subst hc;subst hz;exact h
 |1=>simp at hc hz;subst hc;subst hz;exact k
 |_+2=>simp at hc
section
variable{P:Program}{env:Env}{H:Heap}{dst:Option Tmp}{ty:TypeId}{pos:String}{af:Array Edge}{gd:Option (Nat×Bool)}
theorem byE{f:FuncId}{e:Array Value→Sem Value}{os:Array Operand}{xs:List AV}{ts:Array TypeId}{r:AV}(he:IsExt P f e)(ha:Evs env os.toList xs)
  (h:∀g vs w,RelVs g xs vs→∃v,(e vs.toArray).run P w= .ok v w∧RelV g r v):AStep P ⟨dst,.call {callee:=.value (.func f),args:=os,argTypes:=ts},ty,pos,af,gd⟩ env H (λy H'=>y=r∧H'=H):=by
 intro g n a w ka st;have hr:=ha.rel ka;obtain⟨v,hrun,hv⟩:=h g _ w hr;have e2:(os.toList.map a.eval).toArray=os.map a.eval:=by apply Array.ext';simp
 rw[e2]at hrun;have:(execOp a.eval ⟨dst,.call {callee:=.value (.func f),args:=os,argTypes:=ts},ty,pos,af,gd⟩).run P w= .ok (.value v) w:=by
  have:=he.run (os.map a.eval) w;rw[hrun]at this;simp[execOp,resolve,Deferred.ofValue,invoke];have e3:a.eval (.func f)= .func (.func f) #[] #[]:=rfl;simp[e3,this]
 rw[this];exact⟨g,r,H,.id,hv,st,rfl,rfl⟩
def aiX:List (Nat×Nat)→Nat→Nat→List (Nat×AV)→Option (List AV)
 | [],_,_,[]=>some []
 |(off,size)::pl,k,o,(i,x)::qs=>if off=o∧i=k∧x.cells.length=size then(aiX pl (k+1) (o+size) qs).map (x.cells++·)else none
 |_,_,_,_=>none
theorem bcP{places:List (Nat×Nat)}{zs:List AV}:∀(pl:List (Nat×Nat))(k:Nat)(pre cs:List AV)(qs:List (Nat×AV)),places.drop k=pl→aiX pl k pre.length qs=some cs→pre.length+cs.length=zs.length→
  aiR (places[·]?) (pre++zs.drop pre.length) qs=some (pre++cs)
 | [],k,pre,cs,[],_,h,hl=>by
  simp only[aiX,Option.some.injEq]at h;subst h;simp only[bG,cA]at hl;rw[hl];simp[aiR]
 | [],k,pre,cs,q::qs,_,h,_=>by simp[aiX]at h
 |p::pl,k,pre,cs,[],_,h,_=>by simp[aiX]at h
 |(off,size)::pl,k,pre,cs,(i,x)::qs,hp,h,hl=>by
  simp only[aiX]at h;split at h
  ·rename_i hc
   obtain⟨rfl,rfl,hs⟩:=hc;obtain⟨ds,hd,rfl⟩:=gL.1 h;have hpl:places[i]?=some (pre.length,size):=by
    have:=congrArg (·[0]?) hp;simpa using this
   simp only[aiR,hpl];simp only[aO]at hl;rw[aN ⟨hs,by simp;omega⟩];have e:putRow (pre++zs.drop pre.length) pre.length x.cells=(pre++x.cells)++zs.drop (pre++x.cells).length:=by
    simp[putRow,fF]
   rw[e];have:=bcP (zs:=zs) pl (i+1) (pre++x.cells) ds qs (by rw[←gT,hp];rfl) (by rw[aO,hs];exact hd) aG;rw[this,bK]
  cases h
theorem bfL{fs:Array Field}{ops:List (Nat×Operand)}{qs:List (Nat×AV)}{z:Value}{zs cs:List AV}(places:List (Nat×Nat))(hu:P.underlying T=some (.struct fs))(hz:∀w,(zeroValue T).run P w= .ok z w)
  (hzr:∀g,RelCells g zs z.cells)(hp:fs.toList.map (·.offset)=places.map (·.1))(hs:∀(i:Nat) f p,fs[i]?=some f→places[i]?=some p→∀w,(sizeOf f.type).run P w= .ok p.2 w)
  (hq:Parts env ops qs)(hf:aiX places 0 0 qs=some cs)(hl:Nat.beq cs.length zs.length=true):APure P ⟨dst,.build T ops.toArray,ty,pos,af,gd⟩ env (.agg cs):=
 yY places hu hz hzr hp hs hq (by
   have:=bcP (places:=places) (zs:=zs) places 0 [] cs qs rfl hf (by have:=cR hl;simpa using this);simpa using this)
theorem afC{c:AV}(ha:∀w,(isAgg T).run P w= .ok false w)(hx:Ev env x (.ptr (some ⟨b,o,none⟩)))(hk:∀W,Inv W→∃v,W.cell? ⟨b,o,none⟩=some v∧∀g,RelV g c v):
  AStep P ⟨dst,.load T x,ty,pos,af,gd⟩ env H (λy H'=>y=c∧H'=H):=by
 intro g n a w ka s;obtain⟨v,he,hv⟩:=ev1 hx ka;cases hv
 obtain⟨u,hu,hr⟩:=hk _ g.hinv;have hlt:b<g.base.heap.size:=World.block_lt_of_cell? _ (a:=⟨b,o,none⟩) hu;have hu':w.cell? ⟨b,o,none⟩=some u:=by rw[World.cell?_of_block (w:=g.base) (s.below.block b hlt)];exact hu
 have:(execOp a.eval ⟨dst,.load T x,ty,pos,af,gd⟩).run P w= .ok (.value u) w:=by simp[execOp,he,Instr.loadAt,Instr.sureAddr,loadVar,ha,hu']
 rw[this];exact⟨g,c,H,.id,hr g,s,rfl,rfl⟩
end
end
section
open Go Go.RowKit
def U(k:IntKind)(xs:List Nat):List AV:=xs.map λa:Nat=>.int k (a:Int)
theorem adH(k:IntKind)(xs:List Nat):(U k xs).length=xs.length:=cE _
theorem bpS(h:j<xs.length):(U k xs)[j]?=some (.int k ((xs.getD j 0:Nat):Int)):=by
 unfold U;rw[cT,aP,aX h];rfl
theorem cmP{v:Nat}(h:j<xs.length):putRow (U k xs) j [.int k (v:Int)]=U k (xs.set j v):=by
 unfold putRow U;rw[List.map_set,List.set_eq_take_append_cons_drop,aN (by simpa using h)];simp
theorem alS(k:IntKind)(xs:List Nat):∀x,x∈U k xs→x.row 1:=λx hx=>by
 obtain⟨a,_,rfl⟩:=fW.1 hx;exact⟨rfl,rfl⟩
theorem azJ(k:IntKind)(xs ys:List Nat):U k xs++U k ys=U k (xs++ys):=by simp[U]
theorem ceX(k:IntKind)(xs:List Nat)(n:Nat):(U k xs).take n=U k (xs.take n):=by simp[U,List.map_take]
theorem clT(k:IntKind)(xs:List Nat)(n:Nat):(U k xs).drop n=U k (xs.drop n):=by simp[U,List.map_drop]
section
variable{P:Program}{env:Env}{H:Heap}{dst:Option Tmp}{ty:TypeId}{pos:String}{af:Array Edge}{gd:Option (Nat×Bool)}
theorem AWP.seqToL{n:Fr}{a b:Code}(ds:Env)(ks:List Nat)(ha:AWP P n a (λe env' H'=>e= .normal∧Env.sub (ds++Env.only ks env) env'∧H'=H) env H)(hb:AWP P n b Q (ds++Env.only ks env) H):AWP P n (.seq a b) Q env H:=by
 refine .seq (ha.mono λe env' H' hq=>?_);obtain⟨rfl,hs,rfl⟩:=hq;exact hb.sub _ hs
theorem qB(hu:P.underlying T=some (.slice E))(hx:Ev env x (.slice 1 (U k xs) tl)):
  APure P ⟨dst,.call {callee:=.builtin .len,args:= #[x],argTypes:= #[T]},ty,pos,af,gd⟩ env (.int .i64 (xs.length:Int)):=by
 have:=afU (P:=P) (dst:=dst) (ty:=ty) (pos:=pos) (af:=af) (gd:=gd) hu hx
 rwa[adH]at this
theorem zV(j:Nat)(hu:P.underlying T=some (.slice E))(hs:∀w,(sizeOf E).run P w= .ok 1 w)
  (hx:Ev env x (.slice 1 (U k xs) tl))(hi:Ev env i (.int k' m))(hj:m=(j:Int))(h:j<xs.length):APure P ⟨dst,.indexAddr T x i,ty,pos,af,gd⟩ env (.iptr [.int k ((xs.getD j 0:Nat):Int)]):=by
 subst hj;exact aaY hu hs hx hi (cO _) (bpS h)
theorem yG{l:Nat}(j:Nat)(hu:P.underlying T=some (.slice E))(hs:∀w,(sizeOf E).run P w= .ok 1 w)
  (hx:Ev env x (.mslice (some ⟨b,0,none⟩) l c))(hi:Ev env i (.int k m))(hj:m=(j:Int))(h:j<l):APure P ⟨dst,.indexAddr T x i,ty,pos,af,gd⟩ env (.ptr (some ⟨b,j,none⟩)):=by
 subst hj;have:=qL (P:=P) (dst:=dst) (ty:=ty) (pos:=pos) (af:=af) (gd:=gd) hu hs hx hi (cO _) aA
 rwa[show 0+((j:Nat):Int).toNat*1=j by omega]at this
theorem abU{l:Nat}(j:Nat)(hu:P.underlying T=some (.slice E))(hs:∀w,(sizeOf E).run P w= .ok 1 w)
  (hx:Ev env x (.mslice (some ⟨b,o,none⟩) l c))(hi:Ev env i (.int k m))(hj:m=(j:Int))(h:j<l):APure P ⟨dst,.indexAddr T x i,ty,pos,af,gd⟩ env (.ptr (some ⟨b,o+j,none⟩)):=by
 subst hj;have:=qL (P:=P) (dst:=dst) (ty:=ty) (pos:=pos) (af:=af) (gd:=gd) hu hs hx hi (cO _) aA
 rwa[show o+((j:Nat):Int).toNat*1=o+j by omega]at this
theorem adE(j:Nat)(hu:P.underlying T=some (.slice E))(hs:∀w,(sizeOf E).run P w= .ok 1 w)
  (hx:Ev env x (.slice 1 (U k xs) tl))(hi:Ev env i (.int k' m))(hj:m=(j:Int))(h:j≤xs.length):APure P ⟨dst,.slice T x none (some i) none,ty,pos,af,gd⟩ env (.slice 1 (U k (xs.take j)) .shared):=by
 subst hj;exact amI (f:=λa:Nat=>AV.int k (a:Int)) hu hs hx hi (cO _) (by simpa using h)
theorem amG(j:Nat)(hu:P.underlying T=some (.slice E))(hs:∀w,(sizeOf E).run P w= .ok 1 w)
  (hx:Ev env x (.slice 1 (U k xs) tl))(hi:Ev env i (.int k' m))(hj:m=(j:Int))(h:j≤xs.length):APure P ⟨dst,.slice T x (some i) none none,ty,pos,af,gd⟩ env (.slice 1 (U k (xs.drop j)) tl):=by
 subst hj;exact amH (f:=λa:Nat=>AV.int k (a:Int)) hu hs hx hi (cO _) (by simpa using h)
theorem axU{l:Nat}(j:Nat)(hu:P.underlying T=some (.slice E))(hs:∀w,(sizeOf E).run P w= .ok 1 w)
  (hx:Ev env x (.mslice (some ⟨b,o,none⟩) l c))(hi:Ev env i (.int k m))(hj:m=(j:Int))(h:j<c)(h2:j≤l)(hl:l≤c):APure P ⟨dst,.slice T x (some i) none none,ty,pos,af,gd⟩ env (.mslice (some ⟨b,o+j,none⟩) (l-j) (c-j)):=by
 subst hj;have:=alH (P:=P) (dst:=dst) (ty:=ty) (pos:=pos) (af:=af) (gd:=gd) (l:=some ((j:Int).toNat)) (h:=none) hu hs hx (.yes _ _ _ hi (cO _)) .no (by simpa using h2) (by simpa using hl);simp only[eW,dZ,Option.getD_none]at this;rw[aJ]at this;simpa[Addr.add_off]using this
theorem amF{i':Operand}{l:Nat}{q:Int}(j h:Nat)(hu:P.underlying T=some (.slice E))(hs:∀w,(sizeOf E).run P w= .ok 1 w)
  (hx:Ev env x (.mslice (some ⟨b,o,none⟩) l c))(hi:Ev env i (.int k m))(hi':Ev env i' (.int k' q))(hj:m=(j:Int))(hh:q=(h:Int))(h1:j≤h)(h2:h≤c)(h3:j<c):APure P ⟨dst,.slice T x (some i) (some i') none,ty,pos,af,gd⟩ env (.mslice (some ⟨b,o+j,none⟩) (h-j) (c-j)):=by
 subst hj;subst hh;have:=alH (P:=P) (dst:=dst) (ty:=ty) (pos:=pos) (af:=af) (gd:=gd) (l:=some ((j:Int).toNat)) (h:=some ((h:Int).toNat)) hu hs hx (.yes _ _ _ hi (cO _)) (.yes _ _ _ hi' (cO _)) (by simpa using h1) (by simpa using h2);simp only[eW,dZ]at this;rw[aJ]at this;simpa[Addr.add_off]using this
theorem qJ(ha:∀w,(isAgg T).run P w= .ok false w)(hx:Ev env x (.ptr (some ⟨b,j,none⟩)))(hb:H.objs b=some (.box S (U k xs)))(h:j<xs.length):
  AStep P ⟨dst,.load T x,ty,pos,af,gd⟩ env H (λy H'=>y= .int k ((xs.getD j 0:Nat):Int)∧H'=H):=zM ha hx hb (bpS h)
theorem qE{p:Operand}{v:Nat}(hs:∀w,(sizeOf T).run P w= .ok 1 w)(hp:Ev env p (.ptr (some ⟨b,j,none⟩)))(hx:Ev env x (.int k (v:Int)))(hb:H.objs b=some (.box S (U k xs)))(h:j<xs.length):
  AStep P ⟨dst,.store T p x,ty,pos,af,gd⟩ env H (λz H'=>z= .raw undef∧H'=H.set b (.box S (U k (xs.set j v)))):=by
 have:=zL (P:=P) (dst:=dst) (ty:=ty) (pos:=pos) (af:=af) (gd:=gd) hs hp hx rfl rfl (.inl rfl) hb (by rw[adH];omega)
 rwa[show AV.cells (.int k (v:Int))=[.int k (v:Int)]from rfl,cmP h]at this
theorem yQ{l c:Operand}{q q':Int}(m:Nat)(hu:P.underlying T=some (.slice E))(hti:∀w,(typeInfo E).run P w= .ok ti w)(hs:∀w,(sizeOf E).run P w= .ok 1 w)(hz:∀w,(zeroValue E).run P w= .ok (.int k 0) w)
  (hl:Ev env l (.int .i64 q))(hc:Ev env c (.int .i64 q'))(hq:q=(m:Int))(hq':q'=(m:Int))(hb:ti.bytes≤64)(hm:m≤1000000000):
  AStep P ⟨dst,.makeSlice T l c,ty,pos,af,gd⟩ env H (λy H'=>∃b,y= .mslice (some ⟨b,0,none⟩) m m∧H.objs b=none∧H'=H.set b (.box E (U k (List.replicate m 0)))):=by
 subst hq;subst hq';have:=atU (P:=P) (dst:=dst) (ty:=ty) (pos:=pos) (af:=af) (gd:=gd) (H:=H) hu hti hs hz hl hc hb hm;have e:U k (List.replicate m 0)=List.replicate m (.int k 0):=by simp[U]
 rw[e];exact this
theorem anP(hu:P.underlying T=some (.slice E))(hs:∀w,(sizeOf E).run P w= .ok 1 w)
  (hx:Ev env x (.mslice (some ⟨b,o,none⟩) n c))(hy:Ev env y (.slice 1 (U k ys) tl))(hb:H.objs b=some (.box S (U k xs)))(ho:o+n≤xs.length):
  AStep P ⟨dst,.call {callee:=.builtin .copy,args:= #[x,y],argTypes:= #[T,T']},ty,pos,af,gd⟩ env H
   (λz H'=>z= .int .i64 ((min ys.length n:Nat):Int)∧H'=H.set b (.box S (U k (xs.take o++ys.take n++xs.drop (o+min ys.length n))))):=by
 intro g q a w ka st;obtain⟨v,hex,hv⟩:=ev1 hx ka;obtain⟨u,hey,hu2⟩:=ev1 hy ka;cases hv
 have hun:∀w,(underlying T).run P w= .ok (.slice E) w:=λw=>run_underlying hu w;obtain⟨vs,⟨fz,hw,hth⟩,hrel⟩:=st.box b S _ hb;have hsz:=hrel.1;rw[adH]at hsz
 
 have hpiece:∀us:Array Value,RelCells g (U k (ys.take n)) us→∃w',(storeCells ⟨b,o,none⟩ us.toList).run P w= .ok () w'∧Sat g (H.set b (.box S (U k (xs.take o++ys.take n++xs.drop (o+min ys.length n))))) w':=by
  intro us hus;have hul:us.size=min n ys.length:=by rw[←hus.1,adH,aV]
  have hone:∀v∈us.toList,v.oneCell'=true:=λv hv=>by
   obtain⟨i,hi,hiv⟩:=eX hv;have hi':i<(U k (ys.take n)).length:=by rw[hus.1];simpa using hi
   have h2:=hus.2 i _ v (aX hi') (by rw[←eR,aX hi,hiv]);refine h2.oneCell ?_;obtain⟨z,_,hz⟩:=fW.1 (cF hi');rw[←hz];rfl
  have hrun:=acB (P:=P) b o S fz us.toList 0 vs w hw hth aG hone;simp only[cA]at hrun;refine⟨_,hrun,?_⟩;have e:U k (xs.take o++ys.take n++xs.drop (o+min ys.length n))=putRow (U k xs) o (U k (ys.take n)):=by
   unfold putRow;rw[ceX,clT,azJ,azJ,adH,aV,Nat.min_comm]
  rw[e];refine st.turn hb (λj hj=>setRow_other w b j _ hj) aF rfl rfl rfl ⟨_,⟨fz,setRow_heap w b vs _ S fz hw,?_⟩,hrel.putRow hus (by rw[adH,adH,aV];omega)⟩;have e2:(vs.toList.take o++us.toList++vs.toList.drop (o+us.toList.length)).toArray.size=vs.size:=by simp;omega
  rw[e2];exact hth
 
 have hread:∃us:Array Value,RelCells g (U k (ys.take n)) us∧((do let n':=Nat.min (←Builtin.lenOf u) n;Builtin.firstCells (←sizeOf E) n' u):Sem (Array Value)).run P w= .ok us w∧(Builtin.lenOf u).run P w= .ok ys.length w:=by
  generalize hm:U k ys=ws at hu2;cases hu2 with
  |nilSlice=>
   have hl:ys=[]:=by simpa[U]using hm
   subst hl;exact⟨#[],by simpa[U]using RelCells.nil g,by simp[Builtin.lenOf,Builtin.firstCells,hs],by simp[Builtin.lenOf]⟩
  |voidSlice sz ad=>
   have hl:ys=[]:=by simpa[U]using hm
   subst hl;exact⟨#[],by simpa[U]using RelCells.nil g,by simp[Builtin.lenOf,Builtin.firstCells,hs,loadCells];rfl,by simp[Builtin.lenOf]⟩
  |slice sz ws tl b2 off cap us hrow hi hr hlen hcap htl=>
   subst hm;rw[adH]at *;have hcell:∀i,(h:i<ys.length)→w.cell? ⟨b2,off+i,none⟩=some (.int k (ys[i]:Int)):=by
    intro i h;have h1:=st.imm _ _ _ (hi i aA);have h2:=hr i 0 (.int k (ys[i]:Int)) (.int k (ys[i]:Int)) (by simp[U,h]) (by simp[AV.cells]);rw[fB,cA]at h2;generalize us i=z at h1 h2;cases h2
    exact h1
   have hload:(loadCells ⟨b2,off,none⟩ (min ys.length n)).run P w= .ok ((ys.take n).map λa:Nat=>Value.int k (a:Int)).toArray w:=by
    have:=run_loadCells_list (P:=P) (w:=w) ⟨b2,off,none⟩ ((ys.take n).map λa:Nat=>Value.int k (a:Int)) (λj v hj=>by
      rw[Addr.add_off];rw[cT,eT]at hj;split at hj
      ·obtain⟨c,hc,rfl⟩:=gL.1 hj;obtain⟨h,rfl⟩:=bT.1 hc;exact hcell j h
      cases hj)
    simpa[Nat.min_comm]using this
   refine⟨_,aoQ (l:=ys.take n) (f:=λa:Nat=>AV.int k (a:Int)) (h:=λa:Nat=>Value.int k (a:Int)) (λa=>.int _ _),?_,by simp[Builtin.lenOf]⟩;rw[List.map_take]at hload;simp[Builtin.lenOf,Builtin.firstCells,hs];exact hload
 obtain⟨us,hus,hfirst,hlen⟩:=hread;obtain⟨w',hrun,st'⟩:=hpiece us hus;have:(execOp a.eval ⟨dst,.call {callee:=.builtin .copy,args:= #[x,y],argTypes:= #[T,T']},ty,pos,af,gd⟩).run P w= .ok (.value (.int .i64 ((min ys.length n:Nat):Int))) w':=by
  simp only[yO,builtin,Builtin.copy_];simp[hlen,hs]at hfirst;simp[hex,hey,hun,hlen,hs,goInt];rw[show ys.length.min n=min ys.length n from rfl]at *;rw[hfirst];simp only[Result.andThen_ok];rw[hrun];simp
 rw[this];exact⟨g,_,_,.id,.int _ _,st',rfl,rfl⟩
theorem axY{s:List UInt8}(tab:List UInt8)(hu:P.underlying T=some .string)(hx:Ev env x (.str s))(hy:Ev env y (.int k (j:Int)))(hs:s=tab)(h:j<tab.length)(hr:(tab.getD j 0).toNat=r):
  APure P ⟨dst,.index T x y,ty,pos,af,gd⟩ env (.int .u8 (r:Int)):=by
 subst hs;subst hr;have:=qQ (P:=P) (dst:=dst) (ty:=ty) (pos:=pos) (af:=af) (gd:=gd) hu hx hy (cO _) aA;simpa using this
theorem AWP.frzU{n:Fr}{cd:Code}{l:Nat}(ht:env.get? t=some (.mslice (some ⟨b,0,none⟩) l c))(hb:H.objs b=none)(hl:l≤xs.length)(hlc:l≤c)(hc:c≤maxLen)
  (h:AWP P n cd Q ((t,.slice 1 (U k (xs.take l)) .shared)::env) H):AWP P n cd Q env (H.set b (.box T (U k xs))):=by
 intro g ac w ka s;obtain⟨v,hv,hr⟩:=ka.at_ t _ ht;obtain⟨vs,hrel,himm,hle,s'⟩:=s.freeze (oS H b (.box T (U k xs)));have e:(H.set b (.box T (U k xs))).drop b=H:=by
  simp only[Heap.drop,Heap.set];cases H with
  |mk objs toks=>
   simp only[Heap.mk.injEq,and_true]
   funext j
   split
   ·rename_i h;subst h;exact hb.symm
   rfl
 rw[e]at s';have hr':v= .slice (some ⟨b,0,none⟩) l c:=by cases hr;rfl
 subst hr';have hget:∀i,(h:i<l)→vs[i]?=some (.int k (xs.getD i 0:Int)):=λi h=>by
  obtain⟨v,hv,hr⟩:=hrel.at (bpS (k:=k) (xs:=xs) (j:=i) aA);cases hr;exact hv
 have hlen:(U k (xs.take l)).length=l:=by rw[adH,aV];omega
 have hnew:RelV (g.addImm b λo=>vs[o]?) (.slice 1 (U k (xs.take l)) .shared) (.slice (some ⟨b,0,none⟩) l c):=by
  have:=RelV.slice (g:=g.addImm b λo=>vs[o]?) 1 (U k (xs.take l)) .shared b 0 c (λi=>vs.getD i undef) (alS k _)
   (λi hi=>by
     have hi':i<l:=by omega
     rw[bZ];exact himm i _ (by rw[hget i hi'];simp[hget i hi']))
   (λi j x c hx' hc=>by
     have hi:i<l:=by have:=(bT.1 hx').1;omega
     have hxi:x= .int k (xs.getD i 0:Int):=by
       rw[bpS aG]at hx';have:=Option.some.inj hx';rw[←this];simp[hi]
     subst hxi;cases j with
     |zero=>
       simp[AV.cells]at hc;subst hc;have:vs.getD (i*1+0) undef= .int k (xs.getD i 0:Int):=by simp[hget i hi]
       rw[this];exact .int _ _
     |succ j=>simp[AV.cells]at hc)
   aA hc trivial
  rwa[hlen]at this
 have k':RelAct (g.addImm b λo=>vs[o]?) n ((t,.slice 1 (U k (xs.take l)) .shared)::env) ac:=by
  refine⟨ka.size,ka.defers,λt' x hx=>?_⟩;simp only[Env.get?]at hx;cases hb:Nat.beq t t' with
  |true=>
   rw[hb]at hx;have:t=t':=cR hb;subst this;cases hx
   exact⟨_,hv,hnew⟩
  |false=>
   rw[hb]at hx;obtain⟨u,hu,hru⟩:=ka.at_ t' x hx;exact⟨u,hu,hru.mono hle⟩
 exact wp_mono (h _ ac w k' s') λ_ _ _ hq=>hq.up hle
end
end
section
open Go Go.RowKit
section
variable{P:Program}{n:Fr}{ops:Array Oper}
def ayC(ops:Array Oper):List (Nat×Bool)→Array Bool→Bool
 | [],_=>true
 |(i,p)::r,listed=>(if p then(Region.ready .any ops listed).contains i&&Region.free .any ops listed i else Region.ready .any ops listed==[i])&&ayC ops r (listed.setIfInBounds i true)
def arS:List (Nat×Bool)→Array Bool→Array Bool
 | [],listed=>listed
 |(i,_)::r,listed=>arS r (listed.setIfInBounds i true)
theorem alR{Q:Env→Heap→Prop}{fuel:Nat}:∀(r:List (Nat×Bool))(listed:Array Bool)(env:Env)(H:Heap),ayC ops r listed=true→APlan P n ops (λ_ e H'=>XAny P n ops Q fuel (arS r listed) e H') r env H→XAny P n ops Q (r.length+fuel) listed env H
 | [],listed,env,H,_,h=>by
  rw[show([]:List (Nat×Bool)).length+fuel=fuel by simp];exact h
 |(i,p)::r,listed,env,H,hB,h=>by
  obtain⟨o,hi,hd,hcase⟩:=h;simp only[ayC,bN]at hB;obtain⟨hB1,hB2⟩:=hB;rw[show((i,p)::r).length+fuel=(r.length+fuel)+1 by simp;omega];rcases hcase with⟨rfl,x,hx,hk⟩|⟨rfl,hw,R,hx,hk⟩
  ·simp only[if_true,bN]at hB1;exact awU hi hd (r.length+fuel) listed env H (Region.free_spec hi hB1.2) (by simpa using hB1.1) hx (alR r _ _ H hB2 hk)
  simp only[dN,if_false,beq_iff_eq]at hB1;refine⟨λh0=>(by rw[hB1]at h0;cases h0),λj hj=>?_⟩;rw[hB1]at hj;have hji:j=i:=by simpa using hj
  subst hji;exact⟨o,hi,hd,.inr ⟨hw,R,hx,λy H' hR=>alR r _ _ H' hB2 (hk y H' hR)⟩⟩
theorem aoJ{Q Q':Exit→Env→Heap→Prop}(hq:∀e H,Q .normal e H→Q' .normal e H):∀(r:List (Nat×Bool))(env:Env)(H:Heap),APlan P n ops Q r env H→APlan P n ops Q' r env H
 | [],_,_,h=>hq _ _ h
 |(_,_)::r,_,_,⟨o,h1,h2,h3⟩=>⟨o,h1,h2,h3.imp (λ⟨a,x,b,c⟩=>⟨a,x,b,aoJ hq r _ _ c⟩) (λ⟨a,b,R,c,d⟩=>⟨a,b,R,c,λx H' hr=>aoJ hq r _ _ (d x H' hr)⟩)⟩
def XTwo(P:Program)(n:Fr)(ops:Array Oper)(Q:Exit→Env→Heap→Prop)(i:Nat)(r:List (Nat×Bool))(env:Env)(H:Heap):Prop:=
 XOp P n ops i (APlan P n ops Q r) env H
theorem XTwo.s{i:Nat}{r:List (Nat×Bool)}{op:Op}{ty:TypeId}{pos:String}{af:Array Edge}(hi:ops[i]?=some ⟨some d,op,ty,pos,af,none⟩)(hd:Nat.blt d n.size=true)(h:AStep P ⟨some d,op,ty,pos,af,none⟩ (Env.only (Oper.looksAt ops ⟨some d,op,ty,pos,af,none⟩) env) H R)
  (k:∀x H',R x H'→APlan P n ops Q r ((d,x)::env) H'):XTwo P n ops Q i r env H:=
 ⟨_,hi,hd,.inr ⟨.free rfl,R,h,k⟩⟩
theorem AWP.draw2{id:Nat}{l:List Oper}(pre:List (Nat×Bool))(i j:Nat)(r1 r2:List (Nat×Bool))(hm:P.follows .mixedOrders=true)
  (hB:((pre.length+(r1.length+1)==l.length)&&(r1.length==r2.length)&&ayC l.toArray pre (Array.replicate l.length false)&&(Region.ready .any l.toArray (arS pre (Array.replicate l.length false))==[i,j])&&
    arT l.toArray r1 ((arS pre (Array.replicate l.length false)).setIfInBounds i true)&&arT l.toArray r2 ((arS pre (Array.replicate l.length false)).setIfInBounds j true))=true)
  (h:APlan P n l.toArray (λ_ e H'=>XTwo P n l.toArray Q i r1 e H'∧XTwo P n l.toArray Q j r2 e H') pre env H):AWP P n (.region id l.toArray true) Q env H:=by
 intro g a w hr hs;simp only[bN,beq_iff_eq]at hB;obtain⟨⟨⟨⟨⟨hlen,hl2⟩,hp⟩,hrd⟩,hb1⟩,hb2⟩:=hB;refine wp_region_any hm ?_;have hC:XAny P n l.toArray (Q .normal) (pre.length+(r1.length+1)) (Array.replicate l.length false) env H:=by
  refine alR pre _ env H hp ?_;refine aoJ (λe H' hh=>?_) pre env H h;obtain⟨h1,h2⟩:=hh;refine⟨λh0=>(by rw[hrd]at h0;cases h0),λk hk=>?_⟩;rw[hrd]at hk;rcases dG.1 hk with rfl|hk
  ·exact h1.mono λe2 H2 hq=>aeK r1 _ e2 H2 hb1 hq
  have:k=j:=by simpa using hk
  subst this;rw[hl2];exact h2.mono λe2 H2 hq=>aeK r2 _ e2 H2 hb2 hq
 rw[hlen]at hC;rw[show l.toArray.size=l.length by simp];exact adA (g0:=g) (λg' a' w' e H' hle hr' hs' hq=>⟨g',e,H',hle,hr',hs',hq⟩) _ _ g a _ env H (G.le.refl g) hr hs.drew hC
theorem axV{P:Program}{dst:Option Tmp}{ty:TypeId}{pos:String}{af:Array Edge}{gd:Option (Nat×Bool)}{l:Nat}(j:Nat)(hu:P.underlying T=some (.slice E))(hs:∀w,(sizeOf E).run P w= .ok 1 w)
  (hx:Ev env x (.mslice (some ⟨b,o,none⟩) l c))(hi:Ev env i (.int k m))(hj:m=(j:Int))(h:j≤c):APure P ⟨dst,.slice T x none (some i) none,ty,pos,af,gd⟩ env (.mslice (some ⟨b,o,none⟩) j c):=by
 subst hj;have:=alH (P:=P) (dst:=dst) (ty:=ty) (pos:=pos) (af:=af) (gd:=gd) (l:=none) (h:=some ((j:Int).toNat)) hu hs hx .no (.yes _ _ _ hi (cO _)) aF (by simpa using h);simp only[Option.getD_none,eW,dZ,dO,gU]at this;have e:(if c=0 then some (⟨b,o,none⟩:Addr)else(some (⟨b,o,none⟩:Addr)).map (·.add 0))=some ⟨b,o,none⟩:=by
  split
  ·rfl
  simp[Addr.add_off]
 rw[e]at this;exact this
theorem bhC{cd:Code}(b:Bool)(ht:b=true→AWP P n cd Q env H)(hf:b=false→AWP P n cd Q env H):AWP P n cd Q env H:=by
 cases b
 ·exact hf rfl
 exact ht rfl
theorem Heap.set_comm(h:b≠c)(x y:AObj):(H.set b x).set c y=(H.set c y).set b x:=by
 cases H with
 |mk objs toks=>
  simp only[Heap.set];congr 1
  funext k
  by_cases h1:k=c
  ·subst h1;simp[Ne.symm h]
  by_cases h2:k=b
  ·subst h2;simp[h]
  simp[h1,h2]
theorem Heap.set_swap(h:b≠c)(x y z:AObj):((H.set b x).set c y).set b z=(H.set c y).set b z:=by
 rw[Heap.set_comm h,sS]
theorem Heap.fresh_ne{x:AObj}(h:(H.set b x).objs c=none):b≠c:=by
 intro e;subst e;rw[oS]at h;cases h
end
end
section
open Go Go.RowKit
section
variable{P:Program}{env:Env}{H:Heap}{dst:Option Tmp}{ty:TypeId}{pos:String}{af:Array Edge}{gd:Option (Nat×Bool)}
theorem AWP.frzUF{n:Fr}{cd:Code}{l:Nat}(ht:env.get? t=some (.mslice (some ⟨b,0,none⟩) l c))(hb:H.objs b=none)(hl:l≤xs.length)(hlc:l=c)(hc:c≤maxLen)
  (h:AWP P n cd Q ((t,.slice 1 (U k (xs.take l)) .full)::env) H):AWP P n cd Q env (H.set b (.box T (U k xs))):=by
 intro g ac w ka s;obtain⟨v,hv,hr⟩:=ka.at_ t _ ht;obtain⟨vs,hrel,himm,hle,s'⟩:=s.freeze (oS H b (.box T (U k xs)));have e:(H.set b (.box T (U k xs))).drop b=H:=by
  simp only[Heap.drop,Heap.set];cases H with
  |mk objs toks=>
   simp only[Heap.mk.injEq,and_true]
   funext j
   split
   ·grind
   rfl
 rw[e]at s';have hr':v= .slice (some ⟨b,0,none⟩) l c:=by cases hr;rfl
 subst hr';have hget:∀i,(h:i<l)→vs[i]?=some (.int k (xs.getD i 0:Int)):=λi h=>by
  obtain⟨v,hv,hr⟩:=hrel.at (bpS (k:=k) (xs:=xs) (j:=i) aA);cases hr;exact hv
 have hlen:(U k (xs.take l)).length=l:=by rw[adH,aV];omega
 have hnew:RelV (g.addImm b λo=>vs[o]?) (.slice 1 (U k (xs.take l)) .full) (.slice (some ⟨b,0,none⟩) l c):=by
  have:=RelV.slice (g:=g.addImm b λo=>vs[o]?) 1 (U k (xs.take l)) .full b 0 c (λi=>vs.getD i undef) (alS k _)
   (λi hi=>by
     have hi':i<l:=by omega
     rw[bZ];exact himm i _ (by rw[hget i hi'];simp[hget i hi']))
   (λi j x c hx' hc=>by
     have hi:i<l:=by have:=(bT.1 hx').1;omega
     have hxi:x= .int k (xs.getD i 0:Int):=by
       rw[bpS aG]at hx';have:=Option.some.inj hx';rw[←this];simp[hi]
     subst hxi;cases j with
     |zero=>
       simp[AV.cells]at hc;subst hc;have:vs.getD (i*1+0) undef= .int k (xs.getD i 0:Int):=by simp[hget i hi]
       rw[this];exact .int _ _
     |succ j=>simp[AV.cells]at hc)
   aA hc (by show(c-_)*1=0;omega)
  rwa[hlen]at this
 have k':RelAct (g.addImm b λo=>vs[o]?) n ((t,.slice 1 (U k (xs.take l)) .full)::env) ac:=by
  refine⟨ka.size,ka.defers,λt' x hx=>?_⟩;simp only[Env.get?]at hx;cases hb:Nat.beq t t' with
  |true=>
   rw[hb]at hx;have:t=t':=cR hb;subst this;cases hx
   exact⟨_,hv,hnew⟩
  |false=>
   rw[hb]at hx;obtain⟨u,hu,hru⟩:=ka.at_ t' x hx;exact⟨u,hu,hru.mono hle⟩
 exact wp_mono (h _ ac w k' s') λ_ _ _ hq=>hq.up hle
theorem bpQ{a:Act}{vx vy:Value}{us os:Array Value}(hu:P.underlying T=some (.slice E))(hu':P.underlying T'=some (.slice E))
  (hs:∀w,(sizeOf E).run P w= .ok 1 w)(hti:∀w,(typeInfo E).run P w= .ok ti w)(hz:∀w,(zeroValue E).run P w= .ok (.int k 0) w)(hb0:ti.bytes≠0)
  (hex:a.eval x=vx)(hey:a.eval y=vy)(s:Sat g H w)(hvx:∃p,vx= .slice p xs.length xs.length)(hlenY:Builtin.lenOf vy=(pure ys.length:Sem Nat))(hus:RelCells g (U k ys) us)(hos:RelCells g (U k xs) os)
  (hfirst:∀w',w'.heap=w.heap→(Builtin.firstCells 1 ys.length vy).run P w'= .ok us w')(hfirstX:∀w',w'.heap=w.heap→(Builtin.firstCells 1 xs.length vx).run P w'= .ok os w')(hfit:(xs.length+ys.length)*ti.bytes≤140737488355328)(hpos:0<ys.length):
  YieldsTo P (λv w'=>∃g' r H',g.le g'∧RelV g' r v∧Sat g' H' w'∧∃b c,r= .mslice (some ⟨b,0,none⟩) (xs++ys).length c∧H.objs b=none∧(xs++ys).length≤c∧c≤maxLen∧H'=H.set b (.box E (U k ((xs++ys)++List.replicate (c-(xs++ys).length) 0))))
   ((execOp a.eval ⟨dst,.call {callee:=.builtin .append,args:= #[x,y],argTypes:= #[T,T']},ty,pos,af,gd⟩).run P w):=by
 obtain⟨p,rfl⟩:=hvx;rw[aO];have husz:us.size=ys.length:=by rw[←hus.1,adH]
 have hosz:os.size=xs.length:=by rw[←hos.1,adH]
 have hgrow:=growslice_fits (bytes:=ti.bytes) (show xs.length<xs.length+ys.length by omega) hfit
 let nc:=(Question.appendCap (xs.length+ys.length) xs.length E).cut (w.tape w.drawn (.appendCap (xs.length+ys.length) xs.length E))
 have hneed:xs.length+ys.length≤140737488355328:=bC (fD _ (eL hb0)) hfit;have hnc:xs.length+ys.length≤nc∧nc≤maxLen:=by
  show xs.length+ys.length≤xs.length+ys.length+_%(2^63-(xs.length+ys.length))∧_;refine⟨gV _ _,?_⟩;show xs.length+ys.length+w.tape w.drawn (.appendCap (xs.length+ys.length) xs.length E)%(2^63-(xs.length+ys.length))≤maxLen;have:w.tape w.drawn (.appendCap (xs.length+ys.length) xs.length E)%(2^63-(xs.length+ys.length))<2^63-(xs.length+ys.length):=bR _ aA;unfold maxLen;omega
 let row:Array Value:=os++us++Builtin.zeroCells (Value.cells (.int k 0)) (nc-(xs.length+ys.length))
 have hcz:(Value.cells (.int k 0)).size=1:=rfl;have hrun:(execOp a.eval ⟨dst,.call {callee:=.builtin .append,args:= #[x,y],argTypes:= #[T,T']},ty,pos,af,gd⟩).run P w= .ok (.value (.slice (some ⟨w.heap.size,0,none⟩) (xs.length+ys.length) nc)) (w.drew.alloc (.cells row E)):=by
  have i2':=hfirst w.drew rfl;have i1':=hfirstX w.drew rfl;have hforced:(Question.appendCap (xs.length+ys.length) xs.length E).forced=false:=rfl;have hnot2:¬(Builtin.nextslicecap (xs.length+ys.length) xs.length*ti.bytes>2^48):=by simpa using hgrow
  have hne:ys≠[]:=by intro h;subst h;simp at hpos
  have hnot1:¬(xs.length+ys.length≤xs.length):=by omega
  have hl0:Builtin.lenOf (.slice p xs.length xs.length)=(pure xs.length:Sem Nat):=rfl;simp only[yO,builtin,Builtin.append_];simp[hex,hey,underlying,hu,hu',hs,hlenY,hnot1,hti,hb0,hforced,hz,newRow];rw[aM (by simpa using hnot2)];rw[i1'];simp only[Result.andThen_ok];rw[i2'];simp only[Result.andThen_ok];rw[←Array.append_assoc];rfl
 rw[hrun];have hrel:RelCells g (U k ((xs++ys)++List.replicate (nc-(xs.length+ys.length)) 0)) row:=by
  rw[←azJ,←azJ];refine(hos.append hus).append ?_;have e:U k (List.replicate (nc-(xs.length+ys.length)) 0)=List.replicate (nc-(xs.length+ys.length)) (.int k 0):=by simp[U]
  have e2:Builtin.zeroCells (Value.cells (.int k 0)) (nc-(xs.length+ys.length))=Array.replicate (nc-(xs.length+ys.length)) (.int k 0):=by
   apply Array.ext
   ·simp[Builtin.zeroCells,hcz]
   intro i h1 h2;simp[Builtin.zeroCells,Value.cells,Nat.mod_one]
  rw[e,e2];exact agK (.int _ _)
 have s1:Sat g H w.drew:=s.drew;exact⟨g,.mslice (some ⟨w.heap.size,0,none⟩) (xs.length+ys.length) nc,_,.id,.mslice _ _ _,s1.new_row_at E (.inl rfl) hrel,w.heap.size,nc,rfl,s.new_none,hnc.1,hnc.2,rfl⟩
theorem ceY(k:IntKind)(ys:List Nat):(U k ys).flatMap AV.cells=U k ys:=by
 unfold U;induction ys with
 |nil=>rfl
 |cons z zs ih=>rw[dX,dY,ih];rfl
theorem aoM{tl':Tail}(hu:P.underlying T=some (.slice E))(hu':P.underlying T'=some (.slice E))
  (hs:∀w,(sizeOf E).run P w= .ok 1 w)(hti:∀w,(typeInfo E).run P w= .ok ti w)(hz:∀w,(zeroValue E).run P w= .ok (.int k 0) w)(hb0:ti.bytes≠0)
  (hx:Ev env x (.slice 1 (U k xs) .full))(hy:Ev env y (.slice 1 (U k ys) tl'))(hfit:(xs.length+ys.length)*ti.bytes≤140737488355328)(hpos:0<ys.length):
  AStep P ⟨dst,.call {callee:=.builtin .append,args:= #[x,y],argTypes:= #[T,T']},ty,pos,af,gd⟩ env H (λr H'=>∃b c,r= .mslice (some ⟨b,0,none⟩) (xs++ys).length c∧H.objs b=none∧(xs++ys).length≤c∧c≤maxLen∧H'=H.set b (.box E (U k ((xs++ys)++List.replicate (c-(xs++ys).length) 0)))):=by
 intro g n a w ka s;obtain⟨vx,hex,hvx⟩:=ev1 hx ka;obtain⟨vy,hey,hvy⟩:=ev1 hy ka;obtain⟨us,hus,hlenY,hfirst⟩:=acR (P:=P) hvy (alS k ys);obtain⟨os,hos,_,hfirstX⟩:=acR (P:=P) hvx (alS k xs);have hp:∃p,vx= .slice p xs.length xs.length:=by
  generalize hq:U k xs=ws at hvx;have hl:ws.length=xs.length:=by rw[←hq,adH]
  cases hvx with
  |nilSlice=>simp at hl;exact⟨none,by rw[←hl]⟩
  |slice sz xs tl b off cap vs hsz hi hr hlen hcap htl=>
   have:(cap-ws.length)*1=0:=htl;exact⟨some ⟨b,off,none⟩,by rw[show cap=ws.length by omega,hl]⟩
 rw[ceY]at hus hos;rw[adH]at hlenY;have imm:∀w':World,w'.heap=w.heap→∀b k u,g.imm b k=some u→w'.cell? ⟨b,k,none⟩=some u:=λw' hw b k u hu=>by
  have:=s.imm b k u hu;unfold World.cell? at this ⊢;rw[hw];exact this
 exact bpQ hu hu' hs hti hz hb0 hex hey s hp hlenY hus hos (λw' hw=>by
   have:=hfirst w' (imm w' hw)
   rwa[adH]at this) (λw' hw=>by
   have:=hfirstX w' (imm w' hw)
   rwa[adH]at this) hfit hpos
theorem baG{tl':Tail}(hu:P.underlying T=some (.slice E))(hu':P.underlying T'=some (.slice E))
  (hs:∀w,(sizeOf E).run P w= .ok 1 w)(hti:∀w,(typeInfo E).run P w= .ok ti w)(hz:∀w,(zeroValue E).run P w= .ok (.int k 0) w)(hb0:ti.bytes≠0)
  (hx:Ev env x (.slice 1 [] .full))(hy:Ev env y (.slice 1 (U k ys) tl'))(hfit:ys.length*ti.bytes≤140737488355328)(hpos:0<ys.length):
  AStep P ⟨dst,.call {callee:=.builtin .append,args:= #[x,y],argTypes:= #[T,T']},ty,pos,af,gd⟩ env H (λr H'=>∃b c,r= .mslice (some ⟨b,0,none⟩) ys.length c∧H.objs b=none∧ys.length≤c∧c≤maxLen∧H'=H.set b (.box E (U k (ys++List.replicate (c-ys.length) 0)))):=
 aoM (xs:=[]) hu hu' hs hti hz hb0 hx hy (by simpa using hfit) hpos
theorem bbM{u:TypeDesc}(hs:P.underlying S=some u)(hd:P.underlying D=some .string)(hx:Ev env x (.int k (n:Int)))(h:n<128):APure P ⟨dst,.convert S D x,ty,pos,af,gd⟩ env (.str [UInt8.ofNat n]):=by
 intro g m a ka;obtain⟨v,he,hv⟩:=ev1 hx ka;cases hv
 refine⟨_,.str _ (by simp[maxLen]),λw _=>?_⟩;have hrun:=run_convert_int_string (P:=P) w S D k (n:Int) (by rw[hs];rfl) hd;have e:Utf8.encode ((n:Nat):Int)=⟨#[UInt8.ofNat n]⟩:=by
  unfold Utf8.encode;have hv:Utf8.valid ((n:Nat):Int)=true:=by
   unfold Utf8.valid;simp;omega
  rw[hv];simp[h]
 rw[e]at hrun;simp[execOp,he,hrun]
end
end
section
open Go Go.RowKit
def SteadyI(I:Heap→Prop)(P:Program)(ops:Array Oper)(o:Oper)(env:Env)(x:AV):Prop:=
 (Wanted ops (Env.only (o.looksAt ops) env) o true∧∀H,I H→AStep P o (Env.only (o.looksAt ops) env) H (λy H'=>y=x∧H'=H))∨(Wanted ops (Env.only (o.looksAt ops) env) o false∧x= .raw undef)
section
variable{P:Program}{n:Fr}{ops:Array Oper}{I:Heap→Prop}
def XOpI(I:Heap→Prop)(P:Program)(n:Fr)(ops:Array Oper)(i:Nat)(K:Env→Heap→Prop)(env:Env)(H:Heap):Prop:=
 ∃o,ops[i]?=some o∧fits n o.dst=true∧((Wanted ops (Env.only (o.looksAt ops) env) o false∧K (env.put o.dst (.raw undef)) H)∨
   (Wanted ops (Env.only (o.looksAt ops) env) o true∧∃R,AStep P o (Env.only (o.looksAt ops) env) H R∧∀x H',R x H'→I H'∧K (env.put o.dst x) H'))
theorem XOpI.mono{i:Nat}{K':Env→Heap→Prop}(hI:I H)(h:∀e H,I H→K e H→K' e H)(k:XOpI I P n ops i K env H):XOpI I P n ops i K' env H:=by
 obtain⟨o,h1,h2,h3⟩:=k;exact⟨o,h1,h2,h3.imp (λ⟨a,b⟩=>⟨a,h _ _ hI b⟩) (λ⟨a,R,b,c⟩=>⟨a,R,b,λx H' hr=>⟨(c x H' hr).1,h _ _ (c x H' hr).1 (c x H' hr).2⟩⟩)⟩
def XAnyI(I:Heap→Prop)(P:Program)(n:Fr)(ops:Array Oper)(Q:Env→Heap→Prop):Nat→Array Bool→Env→Heap→Prop
 |0,listed,env,H=>Region.ready .any ops listed=[]∧∃e,e.eqv env∧Q e H
 |fuel+1,listed,env,H=>(Region.ready .any ops listed=[]→∃e,e.eqv env∧Q e H)∧∀i∈Region.ready .any ops listed,XOpI I P n ops i (XAnyI I P n ops Q fuel (listed.setIfInBounds i true)) env H
theorem XAnyI.any{Q:Env→Heap→Prop}:∀(fuel:Nat)(listed:Array Bool)(env:Env)(H:Heap),XAnyI I P n ops Q fuel listed env H→XAny P n ops Q fuel listed env H
 |0,_,_,_,h=>h
 |fuel+1,_,_,_,⟨h0,h1⟩=>⟨h0,λi hi=>by
   obtain⟨o,a,b,c⟩:=h1 i hi;exact⟨o,a,b,c.imp (λ⟨p,q⟩=>⟨p,XAnyI.any fuel _ _ _ q⟩) (λ⟨p,R,q,r⟩=>⟨p,R,q,λx H' hr=>XAnyI.any fuel _ _ _ (r x H' hr).2⟩)⟩⟩
theorem XOpI.eqv{i:Nat}{e e':Env}(h:e.eqv e')(hK:∀e e' H,e.eqv e'→K e H→K e' H)(k:XOpI I P n ops i K e H):XOpI I P n ops i K e' H:=by
 obtain⟨o,h1,h2,h3⟩:=k;have ho:Env.only (o.looksAt ops) e=Env.only (o.looksAt ops) e':=afF λt _=>h t;rw[ho]at h3;exact⟨o,h1,h2,h3.imp (λ⟨a,b⟩=>⟨a,hK _ _ _ (h.put _ _) b⟩) (λ⟨a,R,b,c⟩=>⟨a,R,b,λx H' hr=>⟨(c x H' hr).1,hK _ _ _ (h.put _ _) (c x H' hr).2⟩⟩)⟩
theorem XAnyI.eqv{Q:Env→Heap→Prop}:∀(fuel:Nat)(listed:Array Bool)(e e':Env)(H:Heap),e.eqv e'→XAnyI I P n ops Q fuel listed e H→XAnyI I P n ops Q fuel listed e' H
 |0,_,_,_,_,h,⟨h0,e0,h1,h2⟩=>⟨h0,e0,λt=>(h1 t).trans (h t),h2⟩
 |fuel+1,_,_,_,_,h,⟨h0,h1⟩=>⟨λhr=>let⟨e0,q1,q2⟩:=h0 hr;⟨e0,λt=>(q1 t).trans (h t),q2⟩,λi hi=>(h1 i hi).eqv h λe e' H he hk=>XAnyI.eqv fuel _ e e' H he hk⟩
theorem SteadyI.xop{i:Nat}{o:Oper}{x:AV}(hI:I H)(hi:ops[i]?=some o)(hd:fits n o.dst=true)(h:SteadyI I P ops o env x)(k:K (env.put o.dst x) H):XOpI I P n ops i K env H:=by
 rcases h with⟨hw,hf⟩|⟨hw,rfl⟩
 ·exact⟨o,hi,hd,.inr ⟨hw,_,hf H hI,λy H' ⟨e1,e2⟩=>by subst e1;subst e2;exact⟨hI,k⟩⟩⟩
 exact⟨o,hi,hd,.inl ⟨hw,k⟩⟩
theorem SteadyI.same{o:Oper}{x:AV}{e e':Env}(h:∀t,t∈o.looksAt ops→e.get? t=e'.get? t)(k:SteadyI I P ops o e x):SteadyI I P ops o e' x:=by
 unfold SteadyI at *;rw[afF h]at k;exact k
theorem XOpI.put{j:Nat}{oi oj:Oper}{x:AV}(hj:ops[j]?=some oj)(hap:oi.apart ops oj=true){K:Env→Heap→Prop}(hK:∀e e' H,e.eqv e'→K e H→K e' H){env:Env}{H:Heap}(hy:SteadyI I P ops oi env x)(h:XOpI I P n ops j K (env.put oi.dst x) H):
  XOpI I P n ops j (λe H'=>SteadyI I P ops oi e x∧K (e.put oi.dst x) H') env H:=by
 obtain⟨h1,h2,h3⟩:=Oper.apart_spec hap;obtain⟨o,ho,hd,hc⟩:=h;have:o=oj:=Option.some.inj (ho.symm.trans hj);subst this;have e1:Env.only (o.looksAt ops) (env.put oi.dst x)=Env.only (o.looksAt ops) env:=afF λt ht=>akD _ _ (λe=>h1 t e ht);rw[e1]at hc;have keep:∀u,SteadyI I P ops oi (env.put o.dst u) x:=λu=>hy.same λt ht=>(akD _ _ (λe=>h3 t e ht)).symm;have sw:∀u,((env.put oi.dst x).put o.dst u).eqv ((env.put o.dst u).put oi.dst x):=λu=>Env.put_swap env x u h2;exact⟨o,ho,hd,hc.imp (λ⟨a,b⟩=>⟨a,keep _,hK _ _ _ (sw _) b⟩) (λ⟨a,R,b,c⟩=>⟨a,R,b,λy H' hr=>⟨(c y H' hr).1,keep _,hK _ _ _ (sw _) (c y H' hr).2⟩⟩)⟩
theorem bhJ{Q:Env→Heap→Prop}{i:Nat}{oi:Oper}{x:AV}(hi:ops[i]?=some oi)(hd:fits n oi.dst=true):
  ∀(fuel:Nat)(listed:Array Bool)(env:Env)(H:Heap),I H→
   (∀j oj,ops[j]?=some oj→j≠i→listed.getD j true=false→(∀e∈oj.after,Region.binds .any e=true→e.on≠i)→oi.apart ops oj=true)→
   i∈Region.ready .any ops listed→SteadyI I P ops oi env x→
   XAnyI I P n ops Q fuel (listed.setIfInBounds i true) (env.put oi.dst x) H→XAnyI I P n ops Q (fuel+1) listed env H:=by
 intro fuel;induction fuel with
 |zero=>
  intro listed env H hI _ hr hy hC;refine⟨λh=>(by rw[h]at hr;cases hr),λj hj=>?_⟩;by_cases hji:j=i
  ·subst hji;exact hy.xop hI hi hd hC
  have:=ready_mono hj hji;rw[hC.1]at this;cases this
 |succ fuel ih=>
  intro listed env H hI hfree hr hy hC;refine⟨λh=>(by rw[h]at hr;cases hr),λj hj=>?_⟩;by_cases hji:j=i
  ·subst hji;exact hy.xop hI hi hd hC
  have h1:=hC.2 j (ready_mono hj hji);obtain⟨hjun,oj,hoj,hall⟩:=mem_ready.1 hj;have hnot:∀e∈oj.after,Region.binds .any e=true→e.on≠i:=λe he hb heq=>by
   have h1:=hall e he hb;have h0:=(mem_ready.1 hr).1;rw[heq]at h1;rcases bX i listed.size with h'|h'
   ·simp[h']at h0 h1;rw[h0]at h1;cases h1
   simp[gJ h']at h1
  have h2:=XOpI.put hoj (hfree j oj hoj hji hjun hnot) (λe e' H he hk=>XAnyI.eqv fuel _ e e' H he hk) hy h1;have hfree':∀k ok,ops[k]?=some ok→k≠i→(listed.setIfInBounds j true).getD k true=false→
    (∀e∈ok.after,Region.binds .any e=true→e.on≠i)→oi.apart ops ok=true:=λk ok hk hki hun hno=>by
   refine hfree k ok hk hki ?_ hno;by_cases hjk:j=k
   ·subst hjk;exact hjun
   rw[getD_set_ne true hjk]at hun;exact hun
  refine XOpI.mono hI (λe H' hI' h3=>ih (listed.setIfInBounds j true) e H' hI' hfree' (ready_mono hr (Ne.symm hji)) h3.1 ?_) h2;rw[Array.setIfInBounds_comm _ _ hji];exact h3.2
def APlanI(I:Heap→Prop)(P:Program)(n:Fr)(ops:Array Oper)(Q:Exit→Env→Heap→Prop):List (Nat×Bool)→Env→Heap→Prop
 | [],env,H=>Q .normal env H
 |(i,p)::r,env,H=>∃o,ops[i]?=some o∧fits n o.dst=true∧
   ((p=true∧∃x,SteadyI I P ops o env x∧APlanI I P n ops Q r (env.put o.dst x) H)∨
    (p=false∧Wanted ops (Env.only (o.looksAt ops) env) o true∧∃R,AStep P o (Env.only (o.looksAt ops) env) H R∧∀x H',R x H'→I H'∧APlanI I P n ops Q r (env.put o.dst x) H'))
theorem aiK{Q:Exit→Env→Heap→Prop}:∀(r:List (Nat×Bool))(listed:Array Bool)(env:Env)(H:Heap),I H→arT ops r listed=true→APlanI I P n ops Q r env H→XAnyI I P n ops (Q .normal) r.length listed env H
 | [],listed,env,H,_,hB,h=>⟨by simpa[arT]using hB,env,λ_=>rfl,h⟩
 |(i,p)::r,listed,env,H,hI,hB,h=>by
  obtain⟨o,hi,hd,hcase⟩:=h;simp only[arT,bN]at hB;obtain⟨hB1,hB2⟩:=hB;rcases hcase with⟨rfl,x,hx,hk⟩|⟨rfl,hw,R,hx,hk⟩
  ·simp only[if_true,bN]at hB1;exact bhJ hi hd r.length listed env H hI (Region.free_spec hi hB1.2) (by simpa using hB1.1) hx (aiK r _ _ H hI hB2 hk)
  simp only[dN,if_false,beq_iff_eq]at hB1;refine⟨λh0=>(by rw[hB1]at h0;cases h0),λj hj=>?_⟩;rw[hB1]at hj;have hji:j=i:=by simpa using hj
  subst hji;exact⟨o,hi,hd,.inr ⟨hw,R,hx,λy H' hR=>⟨(hk y H' hR).1,aiK r _ _ H' (hk y H' hR).1 hB2 (hk y H' hR).2⟩⟩⟩
theorem AWP.drawI(I:Heap→Prop){id:Nat}{l:List Oper}(plan:List (Nat×Bool))(hI:I H)(hm:P.follows .mixedOrders=true)
  (hB:((plan.length==l.length)&&arT l.toArray plan (Array.replicate l.length false))=true)
  (h:APlanI I P n l.toArray Q plan env H):AWP P n (.region id l.toArray true) Q env H:=by
 intro g a w hr hs;simp only[bN,beq_iff_eq]at hB;obtain⟨hlen,hB⟩:=hB;refine wp_region_any hm ?_;have hC:=(aiK plan _ env H hI hB h).any;rw[hlen]at hC;rw[show l.toArray.size=l.length by simp];exact adA (g0:=g) (λg' a' w' e H' hle hr' hs' hq=>⟨g',e,H',hle,hr',hs',hq⟩) _ _ g a _ env H (G.le.refl g) hr hs.drew hC
variable{Q:Exit→Env→Heap→Prop}{env:Env}{H:Heap}{i:Nat}{r:List (Nat×Bool)}{op:Op}{ty:TypeId}{pos:String}{af:Array Edge}{x:AV}
theorem APlanI.nil(h:Q .normal env H):APlanI I P n ops Q [] env H:=h
theorem APlanI.p(hi:ops[i]?=some ⟨some d,op,ty,pos,af,none⟩)(hd:Nat.blt d n.size=true)(h:APure P ⟨some d,op,ty,pos,af,none⟩ (Env.only (Oper.looksAt ops ⟨some d,op,ty,pos,af,none⟩) env) x)(k:APlanI I P n ops Q r ((d,x)::env) H):APlanI I P n ops Q ((i,true)::r) env H:=
 ⟨_,hi,hd,.inl ⟨rfl,x,.inl ⟨.free rfl,λH' _=>h.step H'⟩,k⟩⟩
theorem APlanI.f(hi:ops[i]?=some ⟨some d,op,ty,pos,af,none⟩)(hd:Nat.blt d n.size=true)(h:∀H,I H→AStep P ⟨some d,op,ty,pos,af,none⟩ (Env.only (Oper.looksAt ops ⟨some d,op,ty,pos,af,none⟩) env) H (λy H'=>y=x∧H'=H))(k:APlanI I P n ops Q r ((d,x)::env) H):APlanI I P n ops Q ((i,true)::r) env H:=
 ⟨_,hi,hd,.inl ⟨rfl,x,.inl ⟨.free rfl,h⟩,k⟩⟩
theorem APlanI.s(hi:ops[i]?=some ⟨some d,op,ty,pos,af,none⟩)(hd:Nat.blt d n.size=true)(h:AStep P ⟨some d,op,ty,pos,af,none⟩ (Env.only (Oper.looksAt ops ⟨some d,op,ty,pos,af,none⟩) env) H R)(k:∀x H',R x H'→I H'∧APlanI I P n ops Q r ((d,x)::env) H'):
  APlanI I P n ops Q ((i,false)::r) env H:=⟨_,hi,hd,.inr ⟨rfl,.free rfl,R,h,k⟩⟩
theorem APlanI.s0(hi:ops[i]?=some ⟨none,op,ty,pos,af,none⟩)(h:AStep P ⟨none,op,ty,pos,af,none⟩ (Env.only (Oper.looksAt ops ⟨none,op,ty,pos,af,none⟩) env) H R)(k:∀x H',R x H'→I H'∧APlanI I P n ops Q r env H'):
  APlanI I P n ops Q ((i,false)::r) env H:=⟨_,hi,rfl,.inr ⟨rfl,.free rfl,R,h,k⟩⟩
theorem APlanI.gp{e:Tmp}{b:Bool}(hi:ops[i]?=some ⟨some d,op,ty,pos,af,some (j,want)⟩)(hd:Nat.blt d n.size=true)(hg:(ops[j]?).bind (·.dst)=some e)(hb:(Env.only (Oper.looksAt ops ⟨some d,op,ty,pos,af,some (j,want)⟩) env).get? e=some (.bool b))(hbw:b=want)
  (h:APure P ⟨some d,op,ty,pos,af,some (j,want)⟩ (Env.only (Oper.looksAt ops ⟨some d,op,ty,pos,af,some (j,want)⟩) env) x)(k:APlanI I P n ops Q r ((d,x)::env) H):APlanI I P n ops Q ((i,true)::r) env H:=
 ⟨_,hi,hd,.inl ⟨rfl,x,.inl ⟨.yes rfl hg hb hbw,λH' _=>h.step H'⟩,k⟩⟩
theorem APlanI.gf{e:Tmp}{b:Bool}(hi:ops[i]?=some ⟨some d,op,ty,pos,af,some (j,want)⟩)(hd:Nat.blt d n.size=true)(hg:(ops[j]?).bind (·.dst)=some e)(hb:(Env.only (Oper.looksAt ops ⟨some d,op,ty,pos,af,some (j,want)⟩) env).get? e=some (.bool b))(hbw:b=want)
  (h:∀H,I H→AStep P ⟨some d,op,ty,pos,af,some (j,want)⟩ (Env.only (Oper.looksAt ops ⟨some d,op,ty,pos,af,some (j,want)⟩) env) H (λy H'=>y=x∧H'=H))(k:APlanI I P n ops Q r ((d,x)::env) H):APlanI I P n ops Q ((i,true)::r) env H:=
 ⟨_,hi,hd,.inl ⟨rfl,x,.inl ⟨.yes rfl hg hb hbw,h⟩,k⟩⟩
theorem APlanI.gn{e:Tmp}{b:Bool}(hi:ops[i]?=some ⟨some d,op,ty,pos,af,some (j,want)⟩)(hd:Nat.blt d n.size=true)(hg:(ops[j]?).bind (·.dst)=some e)(hb:(Env.only (Oper.looksAt ops ⟨some d,op,ty,pos,af,some (j,want)⟩) env).get? e=some (.bool b))(hbw:b= !want)
  (k:APlanI I P n ops Q r ((d,.raw undef)::env) H):APlanI I P n ops Q ((i,true)::r) env H:=
 ⟨_,hi,hd,.inl ⟨rfl,_,.inr ⟨.no rfl hg hb hbw,rfl⟩,k⟩⟩
theorem APlanI.gdead{e:Tmp}(hi:ops[i]?=some ⟨some d,op,ty,pos,af,some (j,want)⟩)(hd:Nat.blt d n.size=true)(hg:(ops[j]?).bind (·.dst)=some e)(hb:(Env.only (Oper.looksAt ops ⟨some d,op,ty,pos,af,some (j,want)⟩) env).get? e=some (.raw undef))
  (k:APlanI I P n ops Q r ((d,.raw undef)::env) H):APlanI I P n ops Q ((i,true)::r) env H:=
 ⟨_,hi,hd,.inl ⟨rfl,_,.inr ⟨.dead j want e rfl hg hb,rfl⟩,k⟩⟩
theorem alP{b:Bool}(_h:env.get? t=some (.bool b))(ht:b=true→APlanI I P n ops Q r env H)(hf:b=false→APlanI I P n ops Q r env H):APlanI I P n ops Q r env H:=by
 cases b
 ·exact hf rfl
 exact ht rfl
end
end
section
open Go Go.RowKit
section
variable{P:Program}{env:Env}{H:Heap}{dst:Option Tmp}{ty:TypeId}{pos:String}{af:Array Edge}{gd:Option (Nat×Bool)}
theorem bfM{N sz:Nat}{ops:List (Nat×Operand)}{qs:List (Nat×AV)}{z:Value}{zs cs:List AV}(hu:P.underlying T=some (.array N E))(hE:∀w,(sizeOf E).run P w= .ok sz w)(hz:∀w,(zeroValue T).run P w= .ok z w)
  (hzr:∀g,RelCells g zs z.cells)(hq:Parts env ops qs)(hf:aiR (λi=>some (i*sz,sz)) zs qs=some cs):APure P ⟨dst,.build T ops.toArray,ty,pos,af,gd⟩ env (.agg cs):=by
 intro g n a ka;obtain⟨h1,h2⟩:=hq.rel ka;obtain⟨us,h3,h4⟩:=(hzr g).fill h1 h2 hf;refine⟨.agg us,.agg cs us h4.1 h4.2,λw _=>?_⟩;simp[execOp,Instr.build,hz,underlying,hu,hE,h3]
theorem bfJ{N:Nat}{cs:List AV}{y:AV}(hu:P.underlying T=some (.array N E))(ha:∀w,(isAgg E).run P w= .ok false w)(hs:∀w,(sizeOf E).run P w= .ok 1 w)
  (hx:Ev env x (.agg cs))(hi:Ev env i (.int k m))(h0:0≤m)(hm:m<N)(hy:cs[m.toNat]?=some y):APure P ⟨dst,.index T x i,ty,pos,af,gd⟩ env y:=by
 intro g n a ka;obtain⟨v,hev,hv⟩:=ev1 hx ka;obtain⟨u,hfu,hu'⟩:=ev1 hi ka;cases hu'
 cases hv with
 |agg cs vs hn hr=>
  obtain⟨z,hz,hrz⟩:=RelCells.at ⟨hn,hr⟩ hy;refine⟨z,hrz,λw _=>?_⟩;simp[execOp,hev,hfu,Instr.index,asIntOf,underlying,hu,hs,h0,hm,part,ha,hz]
end
theorem Sat.cellAt(s:Sat g H w){cs:List AV}{c:AV}(hb:H.objs b=some (.box T cs))(hc:cs[o]?=some c):
  (∃v,w.cell? ⟨b,o,none⟩=some v∧RelV g c v)∧w.frozen? ⟨b,o,none⟩=false:=by
 refine⟨s.box_cell hb hc,?_⟩;obtain⟨vs,hv,hr⟩:=s.box b T cs hb;exact hv.thaw (by rw[←hr.1];exact(bT.1 hc).1)
theorem Sat.cellInt(s:Sat g H w){cs:List AV}(hb:H.objs b=some (.box T cs))(hc:cs[o]?=some (.int k m)):
  w.cell? ⟨b,o,none⟩=some (.int k m)∧w.frozen? ⟨b,o,none⟩=false:=by
 obtain⟨⟨v,h1,h2⟩,h3⟩:=s.cellAt hb hc;cases h2
 exact⟨h1,h3⟩
theorem Sat.setCell(s:Sat g H w){cs:List AV}{y:AV}(hb:H.objs b=some (.box T cs))(_:o<cs.length)(hr:RelV g y v):
  Sat g (H.set b (.box T (cs.set o y))) (w.setCell ⟨b,o,none⟩ v):=by
 obtain⟨vs,⟨fz,hw,hth⟩,hrel⟩:=s.box b T cs hb;rw[setCell_eq_setRow w b o vs T fz v hw];refine s.turn hb (λj hj=>setRow_other w b j _ hj) aF rfl rfl rfl ⟨_,⟨fz,setRow_heap w b vs _ T fz hw,?_⟩,hrel.set o hr⟩;rw[Array.size_setIfInBounds];exact hth
end
end Go.Proofs.YteedncdcbgplfaaGreatDoor
