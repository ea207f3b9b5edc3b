import Derived.Test.YteedncdcbgplfaaGreatDoorN1
namespace Go.Proofs.YteedncdcbgplfaaGreatDoor
open Go.Proofs.Tryz
open Go Go.RowKit
variable{E T T':TypeId}{x y:Operand}{d:TypeDesc}{ti:TypeInfo}{b c i n:Nat}{g:G}{ys zc:List AV}{w:World}{a:Act}{z:Value}
section
section
variable{P:Program}{dst:Option Tmp}{ty:TypeId}{pos:String}{af:Array Go.Edge}{gd:Option (Nat×Bool)}{env:Env}{H:Heap}
def cfV:TypeDesc→Bool
 | .interface _=>false
 |_=>true
theorem aaT{y:AV}(hu:P.underlying T=some d)(hd:cfV d=true)(hx:Ev env x y):APure P ⟨dst,.makeInterface T x,ty,pos,af,gd⟩ env (.iface T y):=by
 intro g n a ka;obtain⟨v,he,hv⟩:=ev1 hx ka;refine⟨_,.iface T _ _ hv,λw _=>?_⟩;have hun:∀w,(underlying T).run P w= .ok d w:=λw=>run_underlying hu w;cases d<;>first|(cases hd;done)|(simp[execOp,Instr.makeInterface,he,hun])
theorem apA{X:TypeId}{y:AV}(hu:P.underlying T=some d)(hd:cfV d=true)(hx:Ev env x (.iface T y)):APure P ⟨dst,.typeAssert x X T true,ty,pos,af,gd⟩ env (.tuple [y,.bool true]):=by
 intro g n a ka;obtain⟨v,he,hv⟩:=ev1 hx ka;have hun:∀w,(underlying T).run P w= .ok d w:=λw=>run_underlying hu w;cases hv with
 |iface t a' v' hv=>
  refine⟨.tuple #[v',.bool true],.tuple _ _ rfl (λi c u hc hu'=>?_),λw _=>?_⟩
  ·match i,hc,hu' with
   |0,hc,hu'=>cases hc;cases hu';exact hv
   |1,hc,hu'=>cases hc;cases hu';exact .bool _
  cases d<;>first|(cases hd;done)|(simp[execOp,Instr.typeAssert,he,hun])
theorem apB{X:TypeId}{y z:AV}{zv:Value}(hu:P.underlying T=some d)(hd:cfV d=true)(hz:∀w,(zeroValue T).run P w= .ok zv w)(hr:∀g,RelV g z zv)(hne:Nat.beq T' T=false)
  (hx:Ev env x (.iface T' y)):APure P ⟨dst,.typeAssert x X T true,ty,pos,af,gd⟩ env (.tuple [z,.bool false]):=by
 intro g n a ka;obtain⟨v,he,hv⟩:=ev1 hx ka;have hun:∀w,(underlying T).run P w= .ok d w:=λw=>run_underlying hu w;have hne':¬T'=T:=Nat.ne_of_beq_eq_false hne;cases hv with
 |iface t a' v' hv=>
  refine⟨.tuple #[zv,.bool false],.tuple _ _ rfl (λi c u hc hu'=>?_),λw _=>?_⟩
  ·match i,hc,hu' with
   |0,hc,hu'=>cases hc;cases hu';exact hr g
   |1,hc,hu'=>cases hc;cases hu';exact .bool _
  cases d<;>first|(cases hd;done)|(simp[execOp,Instr.typeAssert,he,hun,hne',hz])
theorem aqJ{l c:Operand}{m:Nat}(hu:P.underlying T=some (.slice E))(hti:∀w,(typeInfo E).run P w= .ok ti w)(hs:∀w,(sizeOf E).run P w= .ok 1 w)(hz:∀w,(zeroValue E).run P w= .ok .nilIface w)
  (hl:Ev env l (.int .i64 (m:Int)))(hc:Ev env c (.int .i64 (m:Int)))(hb:ti.bytes≤64)(hm:m≤1000000000):
  AStep P ⟨dst,.makeSlice T l c,ty,pos,af,gd⟩ env H (λy H'=>∃b,y= .mslice (some ⟨b,0,none⟩) m m∧H.objs b=none∧H'=H.set b (.box E (List.replicate m .nilIface))):=by
 intro g n a w ka st;obtain⟨v1,he1,hv1⟩:=ev1 hl ka;obtain⟨v2,he2,hv2⟩:=ev1 hc ka;cases hv1;cases hv2
 have hun:∀w,(underlying T).run P w= .ok (.slice E) w:=λw=>run_underlying hu w;have w0:IntKind.i64.wrap ((m:Nat):Int)=(m:Int):=by simp[IntKind.wrap,IntKind.bits,IntKind.signed];omega
 have hbytes:ti.bytes*m≤64*1000000000:=eN hb hm;have hrun:(execOp a.eval ⟨dst,.makeSlice T l c,ty,pos,af,gd⟩).run P w= .ok (.value (.slice (some ⟨w.heap.size,0,none⟩) m m)) (w.alloc (.cells (Array.replicate m .nilIface) E)):=by
  simp only[execOp,Instr.makeSlice,he1,he2];simp only[Sem.run_bind,hun,Result.andThen_ok,asInt,asIntOf,Sem.run_pure,hti,w0];have n1:¬((m:Int)<0):=by omega
  have n2:¬((281474976710656:Int)<(ti.bytes:Int)*(m:Int)):=by
   have:(ti.bytes:Int)*(m:Int)=((ti.bytes*m:Nat):Int):=by simp
   rw[this];omega
  have n5:¬(m*ti.bytes>roomBytes):=by unfold roomBytes;rw[bM];omega
  have n6:¬((m:Int)<(m:Int)):=by omega
  simp[n1,n2,askRoom,n5,hs];by_cases e0:m=0
  ·subst e0;simp[newRow];rw[show Array.range 0= #[]from rfl];simp
  simp[hz,newRow,e0];have:(Array.map (λx=>Value.nilIface.cells[x%Value.nilIface.cells.size]!) (Array.range m))=Array.replicate m Value.nilIface:=by
   apply Array.ext
   ·simp
   intro i h1 h2;simp[Value.cells,Nat.mod_one]
  have hzc:Value.nilIface.cells.size=1:=rfl;rw[hzc]at this;simp only[hzc,this]
 rw[hrun];exact⟨g,_,_,.id,.mslice _ _ _,st.new_box E (agK .nilIface),_,rfl,st.new_none,rfl⟩
theorem bmR{α:Type}(f:α→AV)(l:List α)(o:Nat)(x:α)(h:o<l.length):putRow (l.map f) o [f x]=(l.set o x).map f:=by
 rw[List.set_eq_take_append_cons_drop,aN h];unfold putRow;simp
theorem blQ{α:Type}(f:α→AV)(d:α)(i:Nat){S:TypeId}{o:Nat}{l:List α}(ha:∀w,(isAgg T).run P w= .ok false w)(hx:Ev env x (.ptr (some ⟨b,o,none⟩)))(hb:H.objs b=some (.box S (l.map f)))(he:o=i)(ho:i<l.length):
  AStep P ⟨dst,.load T x,ty,pos,af,gd⟩ env H (λy H'=>y=f (l.getD i d)∧H'=H):=by
 subst he;exact zM ha hx hb (by rw[cT,aX ho,aP,aX ho];rfl)
theorem aaN{α:Type}(f:α→AV)(y:α)(i:Nat){S:TypeId}{p:Operand}{o:Nat}{l:List α}(hs:∀w,(sizeOf T).run P w= .ok 1 w)(hp:Ev env p (.ptr (some ⟨b,o,none⟩)))(hx:Ev env x (f y))(h1:(f y).one=true)(hc:(f y).cells=[f y])(hb:H.objs b=some (.box S (l.map f)))(he:o=i)(ho:i<l.length):
  AStep P ⟨dst,.store T p x,ty,pos,af,gd⟩ env H (λz H'=>z= .raw undef∧H'=H.set b (.box S ((l.set i y).map f))):=by
 subst he;have h:=zL (P:=P) (dst:=dst) (ty:=ty) (pos:=pos) (af:=af) (gd:=gd) hs hp hx (by rw[hc];simp[h1]) (by rw[hc];rfl) (.inl h1) hb aG;rw[hc,bmR f l o y ho]at h;exact h
end
end
section
open Go Go.RowKit
section
variable{P:Program}{env:Env}{H:Heap}{dst:Option Tmp}{ty:TypeId}{pos:String}{af:Array Edge}{gd:Option (Nat×Bool)}
def apW(zc:List AV)(k:Nat):List AV:=(List.replicate k zc).flatten
theorem alU(zc:List AV)(k:Nat):(apW zc k).length=k*zc.length:=by
 unfold apW;rw[List.length_flatten,fC,List.sum_replicate_nat]
theorem bqB{vs:Array Value}(h:RelCells g zc vs)(k:Nat):RelCells g (apW zc k) (Builtin.zeroCells vs k):=by
 refine⟨by rw[alU,h.1];simp[Builtin.zeroCells],λi c v hc hv=>?_⟩;have hi:i<k*zc.length:=by rw[←alU];exact(bT.1 hc).1
 have hz:0<zc.length:=by rcases bF zc.length with e|e;rw[e]at hi;omega;exact e
 have hq:i%zc.length<zc.length:=bR _ hz;have e1:(apW zc k)[i]?=zc[i%zc.length]?:=by
  clear hc hv;unfold apW;induction k generalizing i with
  |zero=>omega
  |succ k ih=>
   rw[eY,List.flatten_cons,eJ];split
   ·rename_i q;rw[bH q]
   rename_i q
   rw[bY,cQ]at hi;rw[ih (i-zc.length) aA (bR _ hz)];congr 1;rw[Nat.mod_eq_sub_mod (a:=i) aA]
 rw[e1]at hc;have e2:(Builtin.zeroCells vs k)[i]?=vs[i%zc.length]?:=by
  rw[h.1];rw[h.1]at hi hq;simp[Builtin.zeroCells,hi,hq]
 rw[e2]at hv;exact h.2 _ _ _ hc hv
theorem asZ{sz:Nat}{p:Option Addr}{cs:List AV}{vx vy:Value}{us os:Array Value}(hu:P.underlying T=some (.slice E))(hu':P.underlying T'=some (.slice E))
  (hs:∀w,(sizeOf E).run P w= .ok sz w)(hti:∀w,(typeInfo E).run P w= .ok ti w)(hz:∀w,(zeroValue E).run P w= .ok z w)(_:z.cells.size=sz)(hzr:∀g,RelCells g zc z.cells)(hb0:ti.bytes≠0)
  (hex:a.eval x=vx)(hey:a.eval y=vy)(s:Sat g H w)(hvx:vx= .slice p n c)(hlenY:Builtin.lenOf vy=(pure ys.length:Sem Nat))(hus:RelCells g (ys.flatMap AV.cells) us)(hyl:(ys.flatMap AV.cells).length=ys.length*sz)(hos:RelCells g cs os)(hcs:cs.length=n*sz)
  (hfirst:∀w',w'.heap=w.heap→(Builtin.firstCells sz ys.length vy).run P w'= .ok us w')(hfirstX:(Builtin.firstCells sz n (.slice p n c)).run P w.drew= .ok os w.drew)(hfit:(n+ys.length)*ti.bytes≤140737488355328)(hc:c<n+ys.length):
  YieldsTo P (λv w'=>∃g' r H',g.le g'∧RelV g' r v∧Sat g' H' w'∧∃b c',H.objs b=none∧r= .mslice (some ⟨b,0,none⟩) (n+ys.length) c'∧n+ys.length≤c'∧c'≤maxLen∧H'=H.set b (.box E (cs++ys.flatMap AV.cells++apW zc (c'-(n+ys.length)))))
   ((execOp a.eval ⟨dst,.call {callee:=.builtin .append,args:= #[x,y],argTypes:= #[T,T']},ty,pos,af,gd⟩).run P w):=by
 subst hvx;have husz:us.size=ys.length*sz:=by rw[←hus.1,hyl]
 have hosz:os.size=n*sz:=by rw[←hos.1,hcs]
 have hgrow:=growslice_fits (bytes:=ti.bytes) hc hfit
 let nc:=(Question.appendCap (n+ys.length) c E).cut (w.tape w.drawn (.appendCap (n+ys.length) c E))
 have hneed:n+ys.length≤140737488355328:=bC (fD _ (eL hb0)) hfit;have hnc:n+ys.length≤nc∧nc≤maxLen:=by
  show n+ys.length≤n+ys.length+_%(2^63-(n+ys.length))∧_;refine⟨gV _ _,?_⟩;show n+ys.length+w.tape w.drawn (.appendCap (n+ys.length) c E)%(2^63-(n+ys.length))≤maxLen;have:w.tape w.drawn (.appendCap (n+ys.length) c E)%(2^63-(n+ys.length))<2^63-(n+ys.length):=bR _ aA;unfold maxLen;omega
 let row:Array Value:=os++us++Builtin.zeroCells z.cells (nc-(n+ys.length))
 have hrun:(execOp a.eval ⟨dst,.call {callee:=.builtin .append,args:= #[x,y],argTypes:= #[T,T']},ty,pos,af,gd⟩).run P w= .ok (.value (.slice (some ⟨w.heap.size,0,none⟩) (n+ys.length) nc)) (w.drew.alloc (.cells row E)):=by
  have i2':=hfirst w.drew rfl;have hforced:(Question.appendCap (n+ys.length) c E).forced=false:=rfl;have hnot1:¬(n+ys.length≤c):=by omega
  have hnot2:¬(Builtin.nextslicecap (n+ys.length) c*ti.bytes>2^48):=by simpa using hgrow
  simp only[yO,builtin,Builtin.append_];simp[hex,hey,underlying,hu,hu',hs,hlenY,hnot1,hti,hb0,hforced,hz,newRow];rw[aM (by simpa using hnot2)];rw[hfirstX];simp only[Result.andThen_ok];rw[i2'];simp only[Result.andThen_ok];rw[←Array.append_assoc];rfl
 rw[hrun];have hrel:RelCells g (cs++ys.flatMap AV.cells++apW zc (nc-(n+ys.length))) row:=(hos.append hus).append (bqB (hzr g) _);have s1:Sat g H w.drew:=s.drew;exact⟨g,.mslice (some ⟨w.heap.size,0,none⟩) (n+ys.length) nc,_,.id,.mslice _ _ _,s1.new_row_at E (.inl rfl) hrel,w.heap.size,nc,s.new_none,rfl,hnc.1,hnc.2,rfl⟩
theorem baI{sz:Nat}{zs:List AV}{tl':Tail}(hu:P.underlying T=some (.slice E))(hu':P.underlying T'=some (.slice E))
  (hs:∀w,(sizeOf E).run P w= .ok sz w)(hti:∀w,(typeInfo E).run P w= .ok ti w)(hz:∀w,(zeroValue E).run P w= .ok z w)(hzl:z.cells.size=sz)(hzr:∀g,RelCells g zc z.cells)(hb0:ti.bytes≠0)
  (hx:Ev env x (.mslice (some ⟨b,0,none⟩) n c))(hb:H.objs b=some (.box E zs))(hzs:zs.length=c*sz)(hnc:n≤c)(hy:Ev env y (.slice sz ys tl'))(hry:∀y,y∈ys→y.row sz)(hfit:(n+ys.length)*ti.bytes≤140737488355328):
  AStep P ⟨dst,.call {callee:=.builtin .append,args:= #[x,y],argTypes:= #[T,T']},ty,pos,af,gd⟩ env H
   (λr H'=>(n+ys.length≤c∧r= .mslice (some ⟨b,0,none⟩) (n+ys.length) c∧H'=H.set b (.box E (putRow zs (n*sz) (ys.flatMap AV.cells))))∨
     (∃b' c',H.objs b'=none∧r= .mslice (some ⟨b',0,none⟩) (n+ys.length) c'∧n+ys.length≤c'∧c'≤maxLen∧H'=H.set b' (.box E (zs.take (n*sz)++ys.flatMap AV.cells++apW zc (c'-(n+ys.length)))))):=by
 intro g q a w ka s;obtain⟨vx,hex,hvx⟩:=ev1 hx ka;obtain⟨vy,hey,hvy⟩:=ev1 hy ka;cases hvx
 obtain⟨us,hus,hlenY,hfirst⟩:=acR (P:=P) hvy hry;have imm:∀w':World,w'.heap=w.heap→∀b k u,g.imm b k=some u→w'.cell? ⟨b,k,none⟩=some u:=λw' hw b k u hu=>by
  have:=s.imm b k u hu;unfold World.cell? at this ⊢;rw[hw];exact this
 have hyl:=abY (λy hy=>(hry y hy).1);have husz:us.size=ys.length*sz:=by rw[←hus.1,hyl]
 have hm:n*sz≤c*sz:=bD sz hnc;by_cases hc:n+ys.length≤c
 ·have hm2:n*sz+ys.length*sz≤c*sz:=by rw[←bY];exact bD sz hc
  obtain⟨vs,⟨fz,hw,hth⟩,hrel⟩:=s.box b E _ hb;have hsz:=hrel.1;have hrun:=acB (P:=P) b (n*sz) E fz us.toList 0 vs w hw hth aG (hus.oneCells (bkJ hry));simp only[cA]at hrun;have hex2:(execOp a.eval ⟨dst,.call {callee:=.builtin .append,args:= #[x,y],argTypes:= #[T,T']},ty,pos,af,gd⟩).run P w= .ok (.value (.slice (some ⟨b,0,none⟩) (n+ys.length) c)) (w.setRow b (vs.toList.take (n*sz)++us.toList++vs.toList.drop (n*sz+us.toList.length)).toArray):=by
   simp only[yO,builtin,Builtin.append_];simp[hex,hey,underlying,hu,hu',hs,hlenY,hc,Addr.add_off];rw[hfirst w (imm w rfl)];simp only[Result.andThen_ok];rw[hrun];simp
  rw[hex2];refine⟨g,.mslice (some ⟨b,0,none⟩) (n+ys.length) c,_,.id,.mslice _ _ _,?_,.inl ⟨hc,rfl,rfl⟩⟩;refine s.turn hb (λj hj=>setRow_other w b j _ hj) aF rfl rfl rfl ⟨_,⟨fz,setRow_heap w b vs _ E fz hw,?_⟩,hrel.putRow hus aA⟩;have e2:(vs.toList.take (n*sz)++us.toList++vs.toList.drop (n*sz+us.toList.length)).toArray.size=vs.size:=by simp;omega
  rw[e2];exact hth
 obtain⟨os,h1,h2⟩:=apV (P:=P) (o:=0) (k:=n*sz) s.drew hb aA;rw[dL]at h2;refine(asZ hu hu' hs hti hz hzl hzr hb0 hex hey s rfl hlenY hus hyl h2 (by rw[aV];omega) (λw' hw=>hfirst w' (imm w' hw)) (by simp[Builtin.firstCells];exact h1) hfit aA).mono ?_;rintro v w' ⟨g',r,H',k1,k2,k3,b',c',k4,k5,k6,k7,k8⟩;exact⟨g',r,H',k1,k2,k3,.inr ⟨b',c',k4,k5,k6,k7,k8⟩⟩
theorem axA{sz:Nat}{tl':Tail}(hu:P.underlying T=some (.slice E))(hu':P.underlying T'=some (.slice E))
  (hs:∀w,(sizeOf E).run P w= .ok (sz+1) w)(hti:∀w,(typeInfo E).run P w= .ok ti w)(hz:∀w,(zeroValue E).run P w= .ok z w)(hzl:z.cells.size=sz+1)(hzr:∀g,RelCells g zc z.cells)(hb0:ti.bytes≠0)
  (hx:Ev env x (.slice (sz+1) [] .full))(hy:Ev env y (.slice (sz+1) ys tl'))(hry:∀y,y∈ys→y.row (sz+1))(hfit:ys.length*ti.bytes≤140737488355328)(hpos:0<ys.length):
  AStep P ⟨dst,.call {callee:=.builtin .append,args:= #[x,y],argTypes:= #[T,T']},ty,pos,af,gd⟩ env H
   (λr H'=>∃b' c',H.objs b'=none∧r= .mslice (some ⟨b',0,none⟩) ys.length c'∧ys.length≤c'∧c'≤maxLen∧H'=H.set b' (.box E (ys.flatMap AV.cells++apW zc (c'-ys.length)))):=by
 intro g q a w ka s;obtain⟨vx,hex,hvx⟩:=ev1 hx ka;obtain⟨vy,hey,hvy⟩:=ev1 hy ka;obtain⟨us,hus,hlenY,hfirst⟩:=acR (P:=P) hvy hry;have imm:∀w':World,w'.heap=w.heap→∀b k u,g.imm b k=some u→w'.cell? ⟨b,k,none⟩=some u:=λw' hw b k u hu=>by
  have:=s.imm b k u hu;unfold World.cell? at this ⊢;rw[hw];exact this
 have hp:∃p,vx= .slice p 0 0:=by
  generalize hq:([]:List AV)=ws at hvx;cases hvx with
  |nilSlice=>exact⟨none,rfl⟩
  |slice sz xs tl b off cap vs hsz hi hr hlen hcap htl=>
   subst hq;have h0:(cap-0)*(sz+1)=0:=htl;have:cap=0:=by rcases Nat.mul_eq_zero.1 h0 with h|h<;>omega
   exact⟨some ⟨b,off,none⟩,by rw[this];rfl⟩
 obtain⟨p,rfl⟩:=hp;have hyl:=abY (λy hy=>(hry y hy).1);have:=asZ (dst:=dst) (ty:=ty) (pos:=pos) (af:=af) (gd:=gd) (cs:=[]) (n:=0) (c:=0) (p:=p) hu hu' hs hti hz hzl hzr hb0 hex hey s rfl hlenY hus hyl (RelCells.nil g) aF (λw' hw=>hfirst w' (imm w' hw)) (by cases p<;>simp[Builtin.firstCells,loadCells]<;>rfl) (by simpa using hfit) (by simpa using hpos);simpa using this
end
section
variable{P:Program}{n:Fr}{Q:Exit→Env→Heap→Prop}{env:Env}{H:Heap}
theorem Sat.rebox{H:Heap}(h:Sat g H w){cs cs':List AV}(hb:H.objs b=some (.box T cs))(hw:∀vs,RelCells g cs vs→RelCells g cs' vs):Sat g (H.set b (.box T cs')) w:={
  below:=h.below
  imm:=h.imm
  box b' T' cs2 hb':=by
    by_cases e:b'=b
    ·subst e;simp only[oS,Option.some.injEq,AObj.box.injEq]at hb';obtain⟨rfl,rfl⟩:=hb';obtain⟨vs,hv,hr⟩:=h.box _ _ _ hb;exact⟨vs,hv,hw vs hr⟩
    rw[oN _ _ e]at hb';exact h.box _ _ _ hb'
  map b' es hb':=by
    by_cases e:b'=b
    ·subst e;simp at hb'
    rw[oN _ _ e]at hb';exact h.map _ _ hb'
  raw b' o hb':=by
    by_cases e:b'=b
    ·subst e;simp at hb'
    rw[oN _ _ e]at hb';exact h.raw _ _ hb'
  own b' x hb':=by
    by_cases e:b'=b
    ·subst e;exact h.own _ _ hb
    rw[oN _ _ e]at hb';exact h.own _ _ hb'
  tok t b' lo n ht hk hn:=by
    obtain⟨h1,h2,h3,h4⟩:=h.tok t b' lo n ht hk hn;refine⟨h1,?_,h3,h4⟩;have e:b'≠b:=by rintro rfl;rw[h2]at hb;cases hb
    rw[oN _ _ e];exact h2
  tokLt:=h.tokLt
  sep:=h.sep}
theorem AWP.rebox{c:Code}{b:Nat}{T:TypeId}{cs cs':List AV}(hb:H.objs b=some (.box T cs))(hw:∀g vs,RelCells g cs vs→RelCells g cs' vs)(h:AWP P n c Q env (H.set b (.box T cs'))):AWP P n c Q env H:=
 λg a w k s=>h g a w k (s.rebox hb (hw g))
theorem RelCells.weak{cs cs':List AV}{vs:Array Value}(h:RelCells g cs vs)(hl:cs'.length=cs.length)(hw:∀(i:Nat) c c',cs[i]?=some c→cs'[i]?=some c'→Weak c c'):RelCells g cs' vs:=by
 refine⟨hl.trans h.1,λi c v hc hv=>?_⟩;have hi:i<cs.length:=by rw[←hl];exact(bT.1 hc).1
 exact(hw i _ c (aX hi) hc).rel (h.2 i _ v (aX hi) hv)
theorem AWP.frzC{cd:Code}{bp sz:Nat}{xs pad cs:List AV}(hb:H.objs b=some (.box E (xs.flatMap AV.cells++pad)))(hrow:∀x,x∈xs→x.row sz)(hc:xs.length≤c)(hcm:c≤maxLen)(hbp:H.objs bp=some (.box T cs))(hne:bp≠b)
  (hi:cs[i]?=some (.mslice (some ⟨b,0,none⟩) xs.length c))(h:AWP P n cd Q env ((H.drop b).set bp (.box T (cs.set i (.slice sz xs .shared))))):AWP P n cd Q env H:=by
 intro g a w k s;obtain⟨vs,hr,himm,hle,s'⟩:=s.freeze hb;have hfl:=abY (λx hx=>(hrow x hx).1);have hvl:(xs.flatMap AV.cells++pad).length=vs.size:=hr.1;rw[aO,hfl]at hvl;have hcell:RelCells g (xs.flatMap AV.cells) (vs.extract 0 (xs.length*sz)):=by
  refine⟨by simp[hfl];omega,λj x v hx hv=>?_⟩;have hj:j<xs.length*sz:=by rw[←hfl];exact(bT.1 hx).1
  refine hr.2 j x v (by rw[cV aA];exact hx) ?_;rw[Array.getElem?_extract,aK,bZ]at hv;exact hv
 have key:=RelV.of_row (g:=g.addImm b (λo=>vs[o]?)) (tl:=.shared) (b:=b) (off:=0) (cap:=c) (us:=vs.extract 0 (xs.length*sz)) (vs:=λi=>vs.getD i undef) hrow (hcell.mono hle) (λj u hj=>by
     have hj2:j<xs.length*sz:=by have:=(cG.1 hj).1;simp at this;omega
     have:vs[j]?=some u:=by rw[Array.getElem?_extract,aK,bZ]at hj;exact hj
     simp[this]) (λj hj=>by
     rw[bZ];have hjl:j<vs.size:=by omega
     exact himm j _ (by simp[hjl])) hc hcm trivial
 have s2:=s'.rebox (cs':=cs.set i (.slice sz xs .shared)) (show(H.drop b).objs bp=some (.box T cs) by simp[Heap.drop,hne,hbp]) (λus hus=>by
   refine⟨by simpa using hus.1,λj x v hx hv=>?_⟩;rw[List.getElem?_set]at hx;split at hx
   ·rename_i hij;subst hij
    split at hx
    ·cases hx
     have:=hus.2 i _ v hi hv;cases this
     exact key
    cases hx
   exact hus.2 j x v hx hv)
 exact wp_mono (h _ a w (k.mono hle) s2) λ_ _ _ q=>q.up hle
end
/-! ### calls that are put off -/
section
variable{P:Program}
theorem auG{ops:Array Oper}{K K1:Exit→Act→World→Prop}{l2:List Oper}(h1:∀a w,K1 .normal a w→wpList P ops K l2 a w)(h2:∀e a w,e≠ .normal→K1 e a w→K e a w):∀{l1:List Oper}{a:Act}{w:World},wpList P ops K1 l1 a w→wpList P ops K (l1++l2) a w:=by
 intro l1;induction l1 with
 |nil=>intro a w h;exact h1 _ _ h
 |cons o l ih=>
  intro a w h;show wpList P ops K (o::(l++l2)) a w;unfold wpList at h ⊢;split
  ·rename_i hw
   rw[aN hw]at h;rcases h with h|⟨k1,a0,w0,k2⟩
   ·refine .inl ?_;unfold Oper.wp at h ⊢;generalize(execOp a.eval o).run P w=r at *;cases r with
    |ok x w'=>
     cases x<;>simp only[Oper.upon]at h ⊢ <;>first
      |exact ih h
      |exact Calls.mono h (λe w'' he=>by
          cases e with
          |returned v=>exact ih he
          |panicked c=>exact h2 _ _ _ aF he
          |outgrown=>obtain⟨a1,w1,he⟩:=he;exact⟨a1,w1,h2 _ _ _ aF he⟩)
      |exact Rows.mono h (λv w'' he=>ih he)
      |exact h
    |halt x w'=>cases x<;>simp only[Oper.upon]at h ⊢ <;>first|exact h2 _ _ _ aF h|exact h
   exact .inr ⟨k1,a0,w0,h2 _ _ _ aF k2⟩
  rename_i hw
  rw[aM hw]at h;exact ih h
theorem blA{ops:Array Oper}{K:Exit→Act→World→Prop}{l:List Oper}(h:wpList P ops K (l++[]) a w):wpList P ops K l a w:=by rwa[bU]at h
def LiftD(g:G)(sz:Nat)(Q:List Deferred→Exit→Env→Heap→Prop):Exit→Act→World→Prop:=
 λe a w=>∃g' env H ds,g.le g'∧RelAct g' ⟨sz,ds⟩ env a∧Sat g' H w∧Q ds e env H
theorem LiftD.up{g':G}(h:g.le g'){sz:Nat}{Q:List Deferred→Exit→Env→Heap→Prop}{e:Exit}(k:LiftD g' sz Q e a w):LiftD g sz Q e a w:=
 let⟨g'',env,H,ds,h1,h2⟩:=k;⟨g'',env,H,ds,h.trans h1,h2⟩
def AWPD(P:Program)(n:Fr)(c:Code)(Q:List Deferred→Exit→Env→Heap→Prop)(env:Env)(H:Heap):Prop:=
 ∀g a w,RelAct g n env a→Sat g H w→c.wp P (LiftD g n.size Q) a w
variable{n:Fr}{Q:List Deferred→Exit→Env→Heap→Prop}{env:Env}{H:Heap}
theorem AWPD.of{c:Code}(h:AWP P n c (Q n.defs) env H):AWPD P n c Q env H:=
 λg a w k s=>wp_mono (h g a w k s) λ_ _ _ ⟨g',e,H',h1,h2,h3,h4⟩=>⟨g',e,H',n.defs,h1,h2,h3,h4⟩
theorem AWPD.seq{x y:Code}(h:AWP P n x (Next.q (AWPD P n y Q) (Q n.defs)) env H):AWPD P n (.seq x y) Q env H:=by
 intro g a w k s;refine wp_seq (wp_mono (h g a w k s) ?_);rintro e a' w' ⟨g',env',H',hle,hr,hs,hq⟩;cases e with
 |normal=>exact wp_mono (hq g' a' w' hr hs) λ_ _ _ h=>h.up hle
 |_=>exact⟨g',env',H',n.defs,hle,hr,hs,hq⟩
def caA(f:FuncId)(ps:List (Option Addr)):Deferred:=⟨.fn (.func f) (ps.map Value.pointer).toArray,#[]⟩
theorem bvL{f:FuncId}{ps:List (Option Addr)}{v:Value}(h:RelV g (.func f (ps.map AV.ptr)) v):v= .func (.func f) #[] (ps.map Value.pointer).toArray:=by
 cases h with
 |func f cs vs hn hr=>
  congr 1
  apply Array.ext
  ·simp at hn;simp[hn]
  intro i h1 h2;have hi:i<ps.length:=by simpa using h2
  have:=hr i (.ptr ps[i]) vs[i] (by simp[hi]) (by simp[h1]);generalize hv:vs[i]=u at this;cases this
  simp
theorem AWPD.seqD{id:Nat}{l1 l2:List Oper}{y:Code}{t:Tmp}{ts:Array TypeId}{ty:TypeId}{pos:String}{af:Array Go.Edge}(f:FuncId)(ps:List (Option Addr))
  (h:AList P n (l1++⟨none,.defer {callee:=.value (.tmp t),args:= #[],argTypes:=ts},ty,pos,af,none⟩::l2).toArray (Next.q (λenv H=>env.get? t=some (.func f (ps.map AV.ptr))∧
    AList P ⟨n.size,caA f ps::n.defs⟩ (l1++⟨none,.defer {callee:=.value (.tmp t),args:= #[],argTypes:=ts},ty,pos,af,none⟩::l2).toArray (Next.q (AWPD P ⟨n.size,caA f ps::n.defs⟩ y Q) (Q (caA f ps::n.defs))) l2 env H) (Q n.defs)) l1 env H):
  AWPD P n (.seq (.region id (l1++⟨none,.defer {callee:=.value (.tmp t),args:= #[],argTypes:=ts},ty,pos,af,none⟩::l2).toArray false) y) Q env H:=by
 intro g a w k s;refine wp_seq (wp_region_lit (auG ?_ ?_ (h g a w k s)))
 ·rintro a' w' ⟨g',env',H',hle,hr,hs,hget,h2⟩;obtain⟨v,hv,hrv⟩:=hr.at_ t _ hget;have hv2:=bvL hrv;subst hv2;refine wpList_step λK hK=>?_;rw[aN (by simp[Region.wanted])];have hev:a'.eval (.tmp t)= .func (.func f) #[] (ps.map Value.pointer).toArray:=by simp[Act.eval,hv]
  have hrun:(execOp a'.eval ⟨none,.defer {callee:=.value (.tmp t),args:= #[],argTypes:=ts},ty,pos,af,none⟩).run P w'= .ok (.defer (caA f ps)) w':=by
   simp[execOp,resolve,hev,Deferred.ofValue,caA]
  unfold Oper.wp;rw[hrun];refine hK _ _ ?_;have hr2:RelAct g' ⟨n.size,caA f ps::n.defs⟩ env' {a' with defers:=caA f ps::a'.defers}:=⟨hr.size,by show caA f ps::a'.defers=_;rw[hr.defers],hr.at_⟩;have h3:=h2 g' _ w' hr2 hs;refine blA (auG ?_ ?_ h3)
  ·rintro a2 w2 ⟨g2,env2,H2,hle2,q1,q2,q3⟩;exact wp_mono (q3 g2 a2 w2 q1 q2) λ_ _ _ h=>h.up (hle.trans hle2)
  rintro e a2 w2 he ⟨g2,env2,H2,hle2,q1,q2,q3⟩;cases e with
  |normal=>exact absurd rfl he
  |_=>exact⟨g2,env2,H2,_,hle.trans hle2,q1,q2,q3⟩
 rintro e a' w' he ⟨g',env',H',hle,hr,hs,hq⟩;cases e with
 |normal=>exact absurd rfl he
 |_=>exact⟨g',env',H',n.defs,hle,hr,hs,hq⟩
def cfA(P:Program)(f:FuncId)(xs:List AV)(H:Heap)(R:AV→Heap→Prop):Prop:=
 ∀g vs w,RelVs g xs vs→Sat g H w→CallsD P f vs.toArray .returning w (λe u w'=>u= .returning∧∃v,e= .returned v∧∃g' x H',g.le g'∧RelV g' x v∧Sat g' H' w'∧R x H')
def cmY(P:Program)(rs:List ResultVar)(R:AV→Heap→Prop)(ds:List Deferred)(e:Exit)(env:Env)(H:Heap):Prop:=
 (e= .normal∨e= .ret)∧∃f ps,ds=[caA f ps]∧(∀args w,(callFunc f args).run P w= .ok (.enter f args) w)∧cfA P f (ps.map AV.ptr) H (λ_ H1=>∃xs H',Ress P env H1 rs xs∧H'.le H1∧R (yT xs) H')
theorem ACall.of_bodyD{f:FuncId}{fn:Func}{c:Code}{xs:List AV}{R:AV→Heap→Prop}{n:Nat}{rs:List ResultVar}(hf:P.funcs[f]?=some fn)(hb:fn.body=some c)(hnt:fn.ntmps=n)(hrs:fn.results=rs.toArray)(hn:Nat.ble xs.length n=true)
  (h:AWPD P ⟨n,[]⟩ c (cmY P rs R) (bdC 0 xs) H):ACall P f xs H R:=by
 intro g vs w hvs hs;have hn:=lB hn;subst hnt;obtain⟨hlen,hrel⟩:=hvs;refine calls_of_wp_defers hf hb ?_;have hsz:(vs.toArray++Array.replicate (fn.ntmps-vs.toArray.size) undef).size=fn.ntmps:=by simp;omega
 refine wp_mono (h g _ w ⟨hsz,rfl,λt x hx=>?_⟩ hs) ?_
 ·obtain⟨_,hx⟩:=awS hx;have ht:t<xs.length:=(bT.1 (by simpa using hx)).1;have htv:t<vs.length:=by omega
  refine⟨vs[t],by simp[gC,htv],hrel t x _ (by simpa using hx) (aX htv)⟩
 rintro e a' w' ⟨g',env',H',ds,hle,hr,hs',he,f',ps,rfl,hent,hcall⟩;have hps:∀g:G,RelVs g (ps.map AV.ptr) (ps.map Value.pointer):=λg=>⟨by simp,λi c v hc hv=>by
   rw[cT]at hc hv;cases hq:ps[i]? with
   |none=>rw[hq]at hc;cases hc
   |some p=>rw[hq]at hc hv;cases hc;cases hv;exact .ptr p⟩
 have hL:Leaves P fn a'.tmps (λe w'=>∃v,e= .returned v∧∃g' x H',g.le g'∧RelV g' x v∧Sat g' H' w'∧R x H') a'.defers .returning w':=by
  rw[hr.defers];refine leaves_cons (f:=f') (args:=(ps.map Value.pointer).toArray) aF (by simp[invoke,hent]) ((hcall g' _ w' (hps g') hs').mono ?_);rintro e u' w'' ⟨rfl,v,rfl,g'',x,H'',hle',hv,hs'',xs,H3,hres,hl,hR⟩;obtain⟨v',hv',hrun⟩:=Ress.run (fn:=fn) (hr.mono hle') hs'' (by rw[hrs];exact hres);exact⟨v',hrun,v',rfl,g'',yT xs,H3,hle.trans hle',hv',hs''.weaken hl,hR⟩
 rcases he with rfl|rfl
 ·exact hL
 exact hL
end
end
section
open Go Go.RowKit
theorem bit31(x:Nat):x.testBit 31=decide (x/2147483648%2=1):=by
 rw[Nat.testBit_eq_decide_div_mod_eq]
theorem APure.say{P:Program}{op:Oper}{env:Env}{a b:AV}(h:a=b)(p:APure P op env a):APure P op env b:=h▸p
theorem borrow32{x y d:Nat}(hx:x<4294967296)(hy:y<4294967296)(hc:c≤1)(hd:d=(x+8589934592-y-c)%4294967296):
  (((4294967295-x)&&&y)|||((4294967295-(x^^^y))&&&d))/2147483648=if x<y+c then 1 else 0:=by
 have hxy:x^^^y<4294967296:=Nat.xor_lt_two_pow (n:=32) hx hy;have hdl:d<4294967296:=by omega
 have hz:(((4294967295-x)&&&y)|||((4294967295-(x^^^y))&&&d))<4294967296:=Nat.or_lt_two_pow (n:=32) (Nat.and_lt_two_pow _ hy) (Nat.and_lt_two_pow _ hdl);have hb:(((4294967295-x)&&&y)|||((4294967295-(x^^^y))&&&d)).testBit 31=decide (x<y+c):=by
  rw[Nat.testBit_or,Nat.testBit_and,Nat.testBit_and,show 4294967295-x=2^32-(x+1) by omega,show 4294967295-(x^^^y)=2^32-((x^^^y)+1) by omega,Nat.testBit_two_pow_sub_succ hx,Nat.testBit_two_pow_sub_succ hxy,Nat.testBit_xor,bit31 x,bit31 y,bit31 d];by_cases h1:x/2147483648%2=1<;>by_cases h2:y/2147483648%2=1<;>by_cases h3:d/2147483648%2=1<;>simp only[h1,h2,h3]<;>simp<;>omega
 generalize(((4294967295-x)&&&y)|||((4294967295-(x^^^y))&&&d))=z at *;rw[bit31]at hb;have:=aQ.1 hb;split<;>omega
theorem com32{a:Nat}(h:a<4294967296):4294967295^^^a=4294967295-a:=by
 apply Nat.eq_of_testBit_eq;intro i;rw[Nat.testBit_xor,show(4294967295:Nat)=2^32-1 by decide,Nat.testBit_two_pow_sub_one,show 2^32-1-a=2^32-(a+1) by omega,Nat.testBit_two_pow_sub_succ h];by_cases hi:i<32
 ·rw[aU hi];cases a.testBit i<;>rfl
 rw[aS hi,Nat.testBit_lt_two_pow (bQ h (by rw[show(4294967296:Nat)=2^32 by decide];exact bB aC aA))];rfl
section
variable{P:Program}{dst:Option Tmp}{ty:TypeId}{pos:String}{af:Array Go.Edge}{gd:Option (Nat×Bool)}{env:Env}
theorem avN{a:Nat}(hx:Ev env x (.int .u32 (a:Int)))(ha:a<4294967296):APure P ⟨dst,.unOp .xor T x,ty,pos,af,gd⟩ env (.int .u32 ((4294967295-a:Nat):Int)):=by
 intro g n b ka;obtain⟨v,he,hv⟩:=ev1 hx ka;cases hv
 refine⟨_,.int _ _,λw _=>?_⟩;have e:=(aiJ (k:=.u32) (a:=4294967295) (b:=a) (lt32 aC) (lt32 ha)).2.2.1;rw[com32 ha,wrapN32 aA]at e;have e2:bits .xor .u32 (IntKind.u32.max) (a:Int)=((4294967295-a:Nat):Int):=e;simp[execOp,he,Op.unary,IntKind.signed,intBits_xor,e2]
end
theorem byD{zs xs ys:List Nat}(hi:i<zs.length)(hx:xs.getD i 0<4294967296)(hy:ys.getD i 0<4294967296)(hc:c≤1)(h:val (zs.take i)+val (ys.take i)=val (xs.take i)+4294967296^i*c):
  val ((zs.set i ((xs.getD i 0+8589934592-ys.getD i 0-c)%4294967296)).take (i+1))+val (ys.take (i+1))=val (xs.take (i+1))+4294967296^(i+1)*(if xs.getD i 0<ys.getD i 0+c then 1 else 0):=by
 rw[aeB hi,yV xs,yV ys,bP];generalize xs.getD i 0=x at *;generalize ys.getD i 0=y at *;generalize 4294967296^i=B at *;have e:(x+8589934592-y-c)%4294967296+y+c=x+4294967296*(if x<y+c then 1 else 0):=by split<;>omega
 generalize(if x<y+c then 1 else 0)=c' at *;generalize(x+8589934592-y-c)%4294967296=d at *;have e2:B*(d+y+c)=B*(x+4294967296*c'):=by rw[e]
 rw[cB,cB,cB,←bJ]at e2;omega
theorem cfU{zs:List Nat}{P Q:Nat}(hz:zs.length=n)(hzl:Limbs zs)(hn:n=(zF P).length)(hq:Q≤P)(hc:c≤1)(h:val (zs.take n)+val ((zF Q).take n)=val ((zF P).take n)+4294967296^n*c):val zs=P-Q:=by
 have hql:(zF Q).length≤n:=by
  rw[hn];exact qH.2 (bA hq (qH.1 (aZ _)))
 rw[aY aA,aY hql,aY aA,zN,zN]at h;have hv:=aeO hzl;rw[hz]at hv;generalize 4294967296^n=B at *;rcases(by omega:c=0∨c=1)with rfl|rfl<;>omega
theorem cgR{a x:Nat}(h:a<2^i):a|||(x*2^i)=a+x*2^i:=by
 rw[Nat.or_comm,←Nat.shiftLeft_eq,←Nat.shiftLeft_add_eq_or_of_lt h,Nat.shiftLeft_eq,fG]
theorem blH{xs:List Nat}(hx:Limbs xs)(hl:xs.length≤2)(hi:i<xs.length):(val (xs.take i)|||(xs.getD i 0*2^(32*i)))=val (xs.take (i+1))∧val (xs.take i)<18446744073709551616∧xs.getD i 0*2^(32*i)<18446744073709551616:=by
 have h1:=aeO (hx.take i);rw[aV,cZ aA]at h1;have e:(2:Nat)^(32*i)=4294967296^i:=by rw[dV]
 have hg:=hx.getD i;rw[cgR (by rw[e];exact h1),e,yV,bM (4294967296^i)];refine⟨rfl,?_,?_⟩<;>rcases(by omega:i=0∨i=1)with rfl|rfl<;>omega
end
end Go.Proofs.YteedncdcbgplfaaGreatDoor
