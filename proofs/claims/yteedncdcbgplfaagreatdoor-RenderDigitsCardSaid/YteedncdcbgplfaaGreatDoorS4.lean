import Derived.Test.YteedncdcbgplfaaGreatDoorS3
import Derived.Sort.Grow
namespace Go.Proofs.YteedncdcbgplfaaGreatDoor
open Go.Proofs.Tryz
open Go Go.RowKit
variable{d:Tmp}{R:AV→Heap→Prop}{j t:Nat}{b want:Bool}{a:Option Addr}{e' env':Env}{k:IntKind}{H H' H1:Heap}{tl:Tail}{c:Code}{E T T':TypeId}{g:G}{dst:Option Tmp}{y:Operand}{m:Int}{z:Value}{w:World}{M:List (Int×AV)}{l:List MapEntry}{N:Nat→Prop}{qs:List (Nat×AV)}
section
section
variable{P:Program}{n:Fr}{Q:Exit→Env→Heap→Prop}{env:Env}{H:Heap}{ops:Array Oper}{l:List Oper}{op:Op}{ty:TypeId}{pos:String}{af:Array Edge}{gd:Option (Nat×Bool)}{x:AV}
theorem AList.p(hd:Nat.blt d n.size=true)(h:APure P ⟨some d,op,ty,pos,af,none⟩ env x)(k:AList P n ops Q l ((d,x)::env) H):AList P n ops Q (⟨some d,op,ty,pos,af,none⟩::l) env H:=
 AList.pure (.free rfl) hd h k
theorem AList.s(hd:Nat.blt d n.size=true)(h:AStep P ⟨some d,op,ty,pos,af,none⟩ env H R)(k:∀x H',R x H'→AList P n ops Q l ((d,x)::env) H'):AList P n ops Q (⟨some d,op,ty,pos,af,none⟩::l) env H:=
 AList.step (.free rfl) hd h k
theorem AList.s0(h:AStep P ⟨none,op,ty,pos,af,none⟩ env H R)(k:∀x H',R x H'→AList P n ops Q l env H'):AList P n ops Q (⟨none,op,ty,pos,af,none⟩::l) env H:=
 AList.step (.free rfl) rfl h k
theorem Wanted.yes{o:Oper}(h:o.guard=some (j,want))(hd:(ops[j]?).bind (·.dst)=some d)(hb:env.get? d=some (.bool b))(hbw:b=want):Wanted ops env o true:=by
 have:=Wanted.guard (ops:=ops) (env:=env) (o:=o) j want b d h hd hb;rw[hbw]at this;simpa using this
theorem Wanted.no{o:Oper}(h:o.guard=some (j,want))(hd:(ops[j]?).bind (·.dst)=some d)(hb:env.get? d=some (.bool b))(hbw:b= !want):Wanted ops env o false:=by
 have:=Wanted.guard (ops:=ops) (env:=env) (o:=o) j want b d h hd hb;rw[hbw]at this;cases want<;>simpa using this
theorem AList.gp{e:Tmp}(hd:Nat.blt d n.size=true)(hg:(ops[j]?).bind (·.dst)=some e)(hb:env.get? e=some (.bool b))(hbw:b=want)(h:APure P ⟨some d,op,ty,pos,af,some (j,want)⟩ env x)
  (k:AList P n ops Q l ((d,x)::env) H):AList P n ops Q (⟨some d,op,ty,pos,af,some (j,want)⟩::l) env H:=
 AList.pure (.yes rfl hg hb hbw) hd h k
theorem AList.gs{e:Tmp}(hd:Nat.blt d n.size=true)(hg:(ops[j]?).bind (·.dst)=some e)(hb:env.get? e=some (.bool b))(hbw:b=want)(h:AStep P ⟨some d,op,ty,pos,af,some (j,want)⟩ env H R)
  (k:∀x H',R x H'→AList P n ops Q l ((d,x)::env) H'):AList P n ops Q (⟨some d,op,ty,pos,af,some (j,want)⟩::l) env H:=
 AList.step (.yes rfl hg hb hbw) hd h k
theorem AList.gn{e:Tmp}(hd:Nat.blt d n.size=true)(hg:(ops[j]?).bind (·.dst)=some e)(hb:env.get? e=some (.bool b))(hbw:b= !want)
  (k:AList P n ops Q l ((d,.raw undef)::env) H):AList P n ops Q (⟨some d,op,ty,pos,af,some (j,want)⟩::l) env H:=
 AList.unwanted (.no rfl hg hb hbw) hd k
theorem AList.gdead{e:Tmp}(hd:Nat.blt d n.size=true)(hg:(ops[j]?).bind (·.dst)=some e)(hb:env.get? e=some (.raw undef))
  (k:AList P n ops Q l ((d,.raw undef)::env) H):AList P n ops Q (⟨some d,op,ty,pos,af,some (j,want)⟩::l) env H:=
 AList.unwanted (.dead j want e rfl hg hb) hd k
variable{i:Nat}{r:List (Nat×Bool)}
theorem APlan.p(hi:ops[i]?=some ⟨some d,op,ty,pos,af,none⟩)(hd:Nat.blt d n.size=true)(h:APure P ⟨some d,op,ty,pos,af,none⟩ (Env.only (Oper.looksAt ops ⟨some d,op,ty,pos,af,none⟩) env) x)(k:APlan P n ops Q r ((d,x)::env) H):APlan P n ops Q ((i,true)::r) env H:=
 APlan.free hi (.free rfl) hd h.free k
theorem APlan.f(hi:ops[i]?=some ⟨some d,op,ty,pos,af,none⟩)(hd:Nat.blt d n.size=true)(h:bxM P ⟨some d,op,ty,pos,af,none⟩ (Env.only (Oper.looksAt ops ⟨some d,op,ty,pos,af,none⟩) env) x)(k:APlan P n ops Q r ((d,x)::env) H):APlan P n ops Q ((i,true)::r) env H:=
 APlan.free hi (.free rfl) hd h k
theorem APlan.s(hi:ops[i]?=some ⟨some d,op,ty,pos,af,none⟩)(hd:Nat.blt d n.size=true)(h:AStep P ⟨some d,op,ty,pos,af,none⟩ (Env.only (Oper.looksAt ops ⟨some d,op,ty,pos,af,none⟩) env) H R)(k:∀x H',R x H'→APlan P n ops Q r ((d,x)::env) H'):
  APlan P n ops Q ((i,false)::r) env H:=APlan.step hi (.free rfl) hd h k
theorem APlan.s0(hi:ops[i]?=some ⟨none,op,ty,pos,af,none⟩)(h:AStep P ⟨none,op,ty,pos,af,none⟩ (Env.only (Oper.looksAt ops ⟨none,op,ty,pos,af,none⟩) env) H R)(k:∀x H',R x H'→APlan P n ops Q r env H'):
  APlan P n ops Q ((i,false)::r) env H:=APlan.step hi (.free rfl) rfl h k
theorem APlan.gp{e:Tmp}(hi:ops[i]?=some ⟨some d,op,ty,pos,af,some (j,want)⟩)(hd:Nat.blt d n.size=true)(hg:(ops[j]?).bind (·.dst)=some e)(hb:(Env.only (Oper.looksAt ops ⟨some d,op,ty,pos,af,some (j,want)⟩) env).get? e=some (.bool b))(hbw:b=want)
  (h:APure P ⟨some d,op,ty,pos,af,some (j,want)⟩ (Env.only (Oper.looksAt ops ⟨some d,op,ty,pos,af,some (j,want)⟩) env) x)(k:APlan P n ops Q r ((d,x)::env) H):APlan P n ops Q ((i,true)::r) env H:=
 APlan.free hi (.yes rfl hg hb hbw) hd h.free k
theorem APlan.gf{e:Tmp}(hi:ops[i]?=some ⟨some d,op,ty,pos,af,some (j,want)⟩)(hd:Nat.blt d n.size=true)(hg:(ops[j]?).bind (·.dst)=some e)(hb:(Env.only (Oper.looksAt ops ⟨some d,op,ty,pos,af,some (j,want)⟩) env).get? e=some (.bool b))(hbw:b=want)
  (h:bxM P ⟨some d,op,ty,pos,af,some (j,want)⟩ (Env.only (Oper.looksAt ops ⟨some d,op,ty,pos,af,some (j,want)⟩) env) x)(k:APlan P n ops Q r ((d,x)::env) H):APlan P n ops Q ((i,true)::r) env H:=
 APlan.free hi (.yes rfl hg hb hbw) hd h k
theorem APlan.gs{e:Tmp}(hi:ops[i]?=some ⟨some d,op,ty,pos,af,some (j,want)⟩)(hd:Nat.blt d n.size=true)(hg:(ops[j]?).bind (·.dst)=some e)(hb:(Env.only (Oper.looksAt ops ⟨some d,op,ty,pos,af,some (j,want)⟩) env).get? e=some (.bool b))(hbw:b=want)
  (h:AStep P ⟨some d,op,ty,pos,af,some (j,want)⟩ (Env.only (Oper.looksAt ops ⟨some d,op,ty,pos,af,some (j,want)⟩) env) H R)(k:∀x H',R x H'→APlan P n ops Q r ((d,x)::env) H'):APlan P n ops Q ((i,false)::r) env H:=
 APlan.step hi (.yes rfl hg hb hbw) hd h k
theorem APlan.gn{e:Tmp}(hi:ops[i]?=some ⟨some d,op,ty,pos,af,some (j,want)⟩)(hd:Nat.blt d n.size=true)(hg:(ops[j]?).bind (·.dst)=some e)(hb:(Env.only (Oper.looksAt ops ⟨some d,op,ty,pos,af,some (j,want)⟩) env).get? e=some (.bool b))(hbw:b= !want)
  (k:APlan P n ops Q r ((d,.raw undef)::env) H):APlan P n ops Q ((i,true)::r) env H:=
 APlan.unwanted hi (.no rfl hg hb hbw) hd k
theorem APlan.gdead{e:Tmp}(hi:ops[i]?=some ⟨some d,op,ty,pos,af,some (j,want)⟩)(hd:Nat.blt d n.size=true)(hg:(ops[j]?).bind (·.dst)=some e)(hb:(Env.only (Oper.looksAt ops ⟨some d,op,ty,pos,af,some (j,want)⟩) env).get? e=some (.raw undef))
  (k:APlan P n ops Q r ((d,.raw undef)::env) H):APlan P n ops Q ((i,true)::r) env H:=
 APlan.unwanted hi (.dead j want e rfl hg hb) hd k
/-! ### where a way leaves -/
variable{N:Env→Heap→Prop}
theorem Next.ex{id:Nat}(h:Q (.exit id) env H):Next.q N Q (.exit id) env H:=h
theorem Next.rt(h:Q .ret env H):Next.q N Q .ret env H:=h
theorem Block.go{id:Nat}(h:Q .normal env H):Block.q id Q .normal env H:=h
theorem Block.rt{id:Nat}(h:Q .ret env H):Block.q id Q .ret env H:=h
theorem Block.hit{id:Nat}(h:Q .normal env H):Block.q id Q (.exit id) env H:=by simpa[Block.q]using h
theorem Block.miss{id id':Nat}(hne:Nat.beq id' id=false)(h:Q (.exit id') env H):Block.q id Q (.exit id') env H:=by
 have:id'≠id:=Nat.ne_of_beq_eq_false hne;simpa[Block.q,this]using h
theorem AWP.seqM{a b:Code}(M:Env→Heap→Prop)(h:AWP P n a (Next.q M Q) env H)(k:∀env' H',M env' H'→AWP P n b Q env' H'):AWP P n (.seq a b) Q env H:=
 AWP.seq (h.mono λe env' H' hq=>by cases e<;>first|exact k _ _ hq|exact hq)
def Meets(M:Env→Heap→Prop):Env→Heap→Prop:=λenv H=>∃env' H',Env.sub env' env∧H'.le H∧M env' H'
theorem AWP.meet{a b:Code}(M:Env→Heap→Prop)(h:AWP P n a (Next.q (Meets M) Q) env H)(k:∀env' H',M env' H'→AWP P n b Q env' H'):AWP P n (.seq a b) Q env H:=
 AWP.seqM (Meets M) h λ_ _ ⟨_,_,h1,h2,h3⟩=>(k _ _ h3).weaken h1 h2
theorem zS{e:Env}{k:Nat}{b':Bool}(h:Env.get? e' k=some (.bool b'))(hb:b'=b)(r:Env.sub e e'):Env.sub ((k,.bool b)::e) e':=⟨by rw[h,hb],r⟩
theorem AWP.seqTo{a b:Code}(d:Nat)(x:AV)(ks:List Nat)(ha:AWP P n a (λe env' H'=>e= .normal∧Env.sub ((d,x)::Env.only ks env) env'∧H'=H) env H)(hb:AWP P n b Q ((d,x)::Env.only ks env) H):AWP P n (.seq a b) Q env H:=by
 refine .seq (ha.mono λe env' H' hq=>?_);obtain⟨rfl,hs,rfl⟩:=hq;exact hb.sub _ hs
theorem Meets.mk{M:Env→Heap→Prop}(h:M env' H')(hs:Env.sub env' env)(hl:H'.le H):Meets M env H:=⟨env',H',hs,hl,h⟩
theorem yF{e:Env}:Env.sub [] e:=trivial
theorem zK{e:Env}{k:Nat}{v:AV}(h:Env.get? e' k=some v)(r:Env.sub e e'):Env.sub ((k,v)::e) e':=⟨h,r⟩
theorem zR{e:Env}{k:Nat}{v v':AV}(h:Env.get? e' k=some v')(hv:v'=v)(r:Env.sub e e'):Env.sub ((k,v)::e) e':=⟨by rw[h,hv],r⟩
theorem abB{sz:Nat}{xs ys:List AV}(h:xs=ys):AV.slice sz xs tl=AV.slice sz ys tl:=by rw[h]
theorem Round.mk{J:Nat→Env→Heap→Prop}{k k':Nat}(h:J k' env' H')(hs:Env.sub env' env)(hl:H'.le H)(hk:k'<k):
  ∃k' env'' H'',k'<k∧Env.sub env'' env∧H''.le H∧J k' env'' H'':=⟨k',env',H',hk,hs,hl,h⟩
theorem AWP.loopW(J:Nat→Env→Heap→Prop)(k0:Nat)(h0:J k0 env' H')(hs:Env.sub env' env)(hl:H'.le H)
  (hround:∀k env H,J k env H→AWP P n c (Next.q (λenv' H'=>∃k' env'' H'',k'<k∧Env.sub env'' env'∧H''.le H'∧J k' env'' H'') Q) env H):AWP P n (.loop c) Q env H:=
 (AWP.loop J k0 h0 hround).weaken hs hl
theorem AWP.frz{b:Nat}{cs:List AV}(ht:env.get? t=some (.ptr (some ⟨b,0,none⟩)))(hb:H.objs b=none)(h:AWP P n c Q ((t,.iptr cs)::env) H):AWP P n c Q env (H.set b (.box T cs)):=by
 intro g a w ka s;obtain⟨vs,hr,hi,hle,s'⟩:=s.freeze (Heap.objs_set_same H b (.box T cs));have e:(H.set b (.box T cs)).drop b=H:=by
  simp only[Heap.drop,Heap.set];cases H with
  |mk objs toks=>
   simp only[Heap.mk.injEq,and_true]
   funext k
   split
   ·rename_i h;subst h;exact hb.symm
   rfl
 rw[e]at s';refine wp_mono (h _ a w ⟨ka.size,ka.defers,λt' x hx=>?_⟩ s') λ_ _ _ q=>q.up hle;simp only[Env.get?]at hx;cases hk:Nat.beq t t' with
 |true=>
  rw[hk]at hx;have:t=t':=cR hk;subst this;cases hx
  obtain⟨v,hv,hrv⟩:=ka.at_ t _ ht;cases hrv
  refine⟨_,hv,.iptr cs b 0 (λi=>vs.getD i undef) (λi hi'=>?_) (λi c hc=>?_)⟩
  ·rw[bZ];exact hi i _ (by have:=hr.1;simp[show i<vs.size by omega])
  obtain⟨u,hu,hru⟩:=hr.at hc;have:vs.getD i undef=u:=by simp[hu]
  rw[this];exact hru.mono hle
 |false=>
  rw[hk]at hx;obtain⟨v,hv,hr'⟩:=ka.at_ t' x hx;exact⟨v,hv,hr'.mono hle⟩
theorem AWP.dropb{b:Nat}{o:AObj}(hb:H.objs b=none)(h:AWP P n c Q env H):AWP P n c Q env (H.set b o):=
 λg a w k s=>h g a w k (s.weaken (Heap.le_set hb o))
theorem AWP.weakv{x:AV}(y:AV)(ht:env.get? t=some x)(hw:Weak x y)(h:AWP P n c Q ((t,y)::env) H):AWP P n c Q env H:=by
 intro g a w ka s;refine h g a w ⟨ka.size,ka.defers,λt' z hz=>?_⟩ s;simp only[Env.get?]at hz;cases hk:Nat.beq t t' with
 |true=>
  rw[hk]at hz;have:t=t':=cR hk;subst this;cases hz
  obtain⟨v,hv,hr⟩:=ka.at_ t _ ht;exact⟨v,hv,hw.rel hr⟩
 |false=>rw[hk]at hz;exact ka.at_ t' z hz
theorem AWP.tag{sz:Nat}{xs:List AV}(ht:env.get? t=some (.slice sz xs .full))(h:∀u,H.toks u=false→AWP P n c Q ((t,.slice sz xs (.own u))::env) (H.live u)):AWP P n c Q env H:=by
 intro g a w ka s;have hf:H.toks g.ntok=false:=by
  cases e:H.toks g.ntok with
  |false=>rfl
  |true=>have:=s.tokLt _ e;omega
 have hle:=G.le_addTok g none;refine wp_mono (h g.ntok hf _ a w ⟨ka.size,ka.defers,λt' x hx=>?_⟩ s.retag) λ_ _ _ q=>q.up hle;simp only[Env.get?]at hx;cases hk:Nat.beq t t' with
 |true=>
  rw[hk]at hx;have:t=t':=cR hk;subst this;cases hx
  obtain⟨v,hv,hrv⟩:=ka.at_ t _ ht;refine⟨v,hv,?_⟩;cases hrv with
  |nilSlice=>exact .nilSlice _ _
  |slice sz xs tl b off cap vs h1 h2 h3 h4 h5 h6=>exact .slice sz xs _ b off cap vs h1 h2 (λi j x c hx hc=>(h3 i j x c hx hc).mono hle) h4 h5 ⟨fE _,.inl h6⟩
 |false=>
  rw[hk]at hx;obtain⟨v,hv,hr'⟩:=ka.at_ t' x hx;exact⟨v,hv,hr'.mono hle⟩
/-! ### heaps -/
theorem Heap.ne_of{H:Heap}{b c:Nat}{y:AObj}(h:H.objs b=some y)(k:H.objs c=none):b≠c:=by rintro rfl;rw[h]at k;cases k
theorem Heap.set_under{H:Heap}{b c:Nat}(h:b≠c)(x x' y:AObj):((H.set b x).set c y).set b x'=(H.set b x').set c y:=by
 simp only[Heap.set,Heap.mk.injEq,and_true]
 funext k
 by_cases h1:k=b
 ·subst h1;simp[h]
 by_cases h2:k=c
 ·subst h2;simp[h1]
 simp[h1,h2]
theorem Heap.fresh_set{H:Heap}{b c:Nat}{x:AObj}(h:(H.set b x).objs c=none)(x':AObj):(H.set b x').objs c=none:=by
 by_cases e:c=b
 ·subst e;simp at h
 rw[Heap.objs_set_ne _ _ e]at h ⊢;exact h
theorem Heap.le_out{H:Heap}(h:H.le H1)(ht:H.toks t=false):H.le (H1.kill t):=by
 refine⟨h.objs,λk hk=>?_⟩;have:=h.toks k hk;have hne:k≠t:=by rintro rfl;rw[ht]at hk;cases hk
 simp[Heap.kill,hne,this]
theorem Heap.le_in{H:Heap}(h:H.le H1)(t:Nat):H.le (H1.live t):=h.trans (Heap.le_live _ _)
theorem Heap.fresh_of{H:Heap}(h:H.le H1)(ht:H1.toks t=false):H.toks t=false:=by
 cases e:H.toks t with
 |false=>rfl
 |true=>rw[h.toks t e]at ht;cases ht
/-! ### lists of data -/
inductive RelL (g:G):List AV→List Value→Prop
 |nil:RelL g [] []
 |cons {x v xs vs} (h:RelV g x v) (k:RelL g xs vs):RelL g (x::xs) (v::vs)
theorem RelL.cells{cs:List AV}{vs:List Value}(h:RelL g cs vs):RelCells g cs vs.toArray:=by
 induction h with
 |nil=>exact RelCells.nil g
 |cons h _ ih=>have:=RelCells.cons h ih;simpa using this
theorem zX(l:List Int):∀x,x∈l.map (AV.int k)→x.row 1:=λx hx=>by
 obtain⟨i,_,rfl⟩:=fW.1 hx;exact⟨rfl,rfl⟩
theorem amI{α:Type}{i:Operand}{sz:Nat}{f:α→AV}{xs:List α}(hu:P.underlying T=some (.slice E))(hs:∀w,(sizeOf E).run P w= .ok sz w)
  (hx:Ev env y (.slice sz (xs.map f) tl))(hi:Ev env i (.int k m))(h0:0≤m)(h:m.toNat≤xs.length):APure P ⟨dst,.slice T y none (some i) none,ty,pos,af,gd⟩ env (.slice sz ((xs.take m.toNat).map f) .shared):=by
 have:=avK (dst:=dst) (ty:=ty) (pos:=pos) (af:=af) (gd:=gd) hu hs hx .no (.yes _ _ _ hi h0) aF (by simpa using h);simpa[amN,List.map_take]using this
theorem amH{α:Type}{i:Operand}{sz:Nat}{f:α→AV}{xs:List α}(hu:P.underlying T=some (.slice E))(hs:∀w,(sizeOf E).run P w= .ok sz w)
  (hx:Ev env y (.slice sz (xs.map f) tl))(hi:Ev env i (.int k m))(h0:0≤m)(h:m.toNat≤xs.length):APure P ⟨dst,.slice T y (some i) none none,ty,pos,af,gd⟩ env (.slice sz ((xs.drop m.toNat).map f) tl):=by
 have:=avK (dst:=dst) (ty:=ty) (pos:=pos) (af:=af) (gd:=gd) hu hs hx (.yes _ _ _ hi h0) .no (by simpa using h) aF;rw[show((List.map f xs).take (Option.none.getD (List.map f xs).length))=List.map f xs from by rw[Option.getD_none,cX],eW,←List.map_drop]at this;exact this
theorem bbL{α:Type}{sz:Nat}{f:α→AV}{xs:List α}(hu:P.underlying T=some (.slice E))(hx:Ev env y (.slice sz (xs.map f) tl)):
  APure P ⟨dst,.call {callee:=.builtin .len,args:= #[y],argTypes:= #[T]},ty,pos,af,gd⟩ env (.int .i64 xs.length):=by
 have:=afU (dst:=dst) (ty:=ty) (pos:=pos) (af:=af) (gd:=gd) hu hx
 rwa[cE]at this
theorem alJ{α:Type}{i:Operand}{sz:Nat}{f:α→AV}{xs:List α}(hu:P.underlying T=some (.slice E))(hs:∀w,(sizeOf E).run P w= .ok sz w)
  (hx:Ev env y (.slice sz (xs.map f) tl))(hi:Ev env i (.int k m))(h0:0≤m)(h:m.toNat<xs.length):APure P ⟨dst,.indexAddr T y i,ty,pos,af,gd⟩ env (.iptr (f xs[m.toNat]).cells):=
 aaY hu hs hx hi h0 (by simp[h])
end
end
section
open Go Go.RowKit
section
variable{P:Program}{env:Env}{H:Heap}{dst:Option Tmp}{ty:TypeId}{pos:String}{af:Array Edge}{gd:Option (Nat×Bool)}
theorem yI{c x:Operand}{t:Bool}{z:AV}(hc:Ev env c (.bool t))(ht:t=true)(hx:Ev env x z):APure P ⟨dst,.pick c x y,ty,pos,af,gd⟩ env z:=
 bbH hc (λ_=>hx) (λe=>by rw[ht]at e;cases e)
theorem yR{c x:Operand}{t:Bool}{z:AV}(hc:Ev env c (.bool t))(ht:t=false)(hy:Ev env y z):APure P ⟨dst,.pick c x y,ty,pos,af,gd⟩ env z:=
 bbH hc (λe=>by rw[ht]at e;cases e) (λ_=>hy)
theorem auY{v u:Value}(hd:binOp .neq T v u=(do pure (.bool (!(←Op.equal T v u))):Sem Value))(h:(Op.equal T v u).run P w= .ok b w):(binOp .neq T v u).run P w= .ok (.bool !b) w:=by
 rw[hd,Sem.run_bind,h];rfl
theorem aiI{op:BinOp}{x:Operand}{a:Act}{v u r:Value}(he:a.eval x=v)(hf:a.eval y=u)(hg:(eqGuard op T x y v u).run P w= .ok () w)(h:(binOp op T v u).run P w= .ok r w):
  (execOp a.eval ⟨dst,.binOp op T x y T',ty,pos,af,gd⟩).run P w= .ok (.value r) w:=by
 simp only[execOp,he,hf];simp[hg,h]
/-! slices of few elements -/
theorem bsL(g:G)(vs:Array Value):RelCells g (vs.toList.map AV.raw) vs:=by
 refine⟨by simp,λi c v hc hv=>?_⟩;simp only[cT,eR]at hc;rw[hv]at hc;cases hc
 exact .raw v
theorem amD(g:G)(n:Nat)(f:Nat→Value):RelCells g ((List.range n).map λi=>AV.raw (f i)) ((Array.range n).map f):=by
 have:=bsL g ((Array.range n).map f);simpa[Function.comp_def]using this
theorem qY{sz:Nat}:∀x,x∈([]:List AV)→x.row sz:=λx hx=>by simp at hx
theorem adD{sz:Nat}{a:AV}{xs:List AV}(h:a.row sz)(k:∀x,x∈xs→x.row sz):∀x,x∈a::xs→x.row sz:=λx hx=>by
 rcases dG.1 hx with rfl|h'
 ·exact h
 exact k x h'
theorem aaC{sz:Nat}{xs ys:List AV}(h:∀x,x∈xs→x.row sz)(k:∀x,x∈ys→x.row sz):∀x,x∈xs++ys→x.row sz:=λx hx=>by
 rcases cN.1 hx with h'|h'
 ·exact h x h'
 exact k x h'
theorem qO{sz:Nat}{xs:List AV}{k:Nat}(h:∀x,x∈xs→x.row sz):∀x,x∈xs.drop k→x.row sz:=λx hx=>h x (gD hx)
theorem qN{sz:Nat}{xs:List AV}{k:Nat}(h:∀x,x∈xs→x.row sz):∀x,x∈xs.take k→x.row sz:=λx hx=>h x (fQ hx)
theorem awZ{sz:Nat}(hu:P.underlying T=some (.slice E))(hs:∀w,(sizeOf E).run P w= .ok sz w)(hz:∀w,(zeroValue E).run P w= .ok z w):
  AStep P ⟨dst,.buildSlice T 0 #[],ty,pos,af,gd⟩ env H (λy H'=>y= .slice sz [] .full∧H'=H):=
 adB (ops:=[]) hu hs hz (λg=>amD g _ _) (by simp[Nat.ble]) rfl .nil qY rfl (by simp[aiR])
theorem yJ{sz:Nat}{o:Operand}{x:AV}(hu:P.underlying T=some (.slice E))(hs:∀w,(sizeOf E).run P w= .ok sz w)(hz:∀w,(zeroValue E).run P w= .ok z w)(hsz:Nat.ble (1*sz) 16777216=true)(h:Ev env o x)
  (h1:x.one=true∨∃cs,x= .agg cs)(hr:x.row sz):AStep P ⟨dst,.buildSlice T 1 #[(0,o)],ty,pos,af,gd⟩ env H (λy H'=>y= .slice sz [x] .full∧H'=H):=by
 refine adB (ops:=[(0,o)]) hu hs hz (λg=>amD g _ _) hsz rfl (.cons h h1 .nil) (adD hr qY) rfl ?_;simp only[aiR,hr.1,dO,cQ,putRow];simp
theorem aeT{sz:Nat}{o o':Operand}{x x':AV}(hu:P.underlying T=some (.slice E))(hs:∀w,(sizeOf E).run P w= .ok sz w)(hz:∀w,(zeroValue E).run P w= .ok z w)(hsz:Nat.ble (2*sz) 16777216=true)(h:Ev env o x)
  (h1:x.one=true∨∃cs,x= .agg cs)(hr:x.row sz)(h':Ev env o' x')(h1':x'.one=true∨∃cs,x'= .agg cs)(hr':x'.row sz):
  AStep P ⟨dst,.buildSlice T 2 #[(0,o),(1,o')],ty,pos,af,gd⟩ env H (λy H'=>y= .slice sz [x,x'] .full∧H'=H):=by
 refine adB (ops:=[(0,o),(1,o')]) hu hs hz (λg=>amD g _ _) hsz rfl (.cons h h1 (.cons h' h1' .nil)) (adD hr (adD hr' qY)) rfl ?_;have e1:=hr.1;have e2:=hr'.1;have hl:((List.range (2*sz)).map λi=>AV.raw (z.cells[i%z.cells.size]!)).length=2*sz:=by simp
 generalize((List.range (2*sz)).map λi=>AV.raw (z.cells[i%z.cells.size]!))=zs at hl;simp only[aiR,dO,cQ];rw[aN ⟨e1,by omega⟩,aN ⟨e2,by simp[putRow];omega⟩];simp only[putRow,fH,cH,bZ,dY,List.flatMap_nil,bU,Option.some.injEq];rw[List.take_left' e1,gK aG];simp
/-! guards -/
end
section
variable{P:Program}{n:Fr}{Q:Exit→Env→Heap→Prop}{env:Env}{H:Heap}{ops:Array Oper}{l:List Oper}
theorem zD(_h:env.get? t=some (.bool b))(ht:b=true→AList P n ops Q l env H)(hf:b=false→AList P n ops Q l env H):AList P n ops Q l env H:=by
 cases b
 ·exact hf rfl
 exact ht rfl
theorem bhB{r:List (Nat×Bool)}(_h:env.get? t=some (.bool b))(ht:b=true→APlan P n ops Q r env H)(hf:b=false→APlan P n ops Q r env H):APlan P n ops Q r env H:=by
 cases b
 ·exact hf rfl
 exact ht rfl
end
end
section
open Go Go.RowKit
def AV.plain:AV→Option Value
 | .bool b=>some (.bool b)
 | .int k n=>some (.int k n)
 | .str s=>some (.string ⟨s.toArray⟩)
 |_=>none
theorem RelV.plain{g:G}{a:AV}{v u:Value}(h:RelV g a v)(hp:a.plain=some u):v=u:=by
 cases h<;>simp_all[AV.plain]
theorem RelCells.plain{g:G}{cs:List AV}{vs:Array Value}(us:List Value)(h:RelCells g cs vs)(hp:cs.map AV.plain=us.map some):vs=us.toArray:=by
 have hl:cs.length=us.length:=by simpa using congrArg List.length hp
 apply Array.ext
 ·rw[←h.1,hl];simp
 intro i h1 h2;have hi:i<cs.length:=by rw[h.1];exact h1
 have e:(cs[i]).plain=some (us[i]'aA):=by
  have:=congrArg (λl=>l[i]?) hp;simpa[hi,show i<us.length by omega]using this
 have:=(h.2 i cs[i] vs[i] (aX hi) (Array.getElem?_eq_getElem h1)).plain e;simpa using this
def atJ(P:Program)(T:TypeId)(cs ds:List AV)(b:Bool):Prop:=
 ∀g xs ys w,RelCells g cs xs→RelCells g ds ys→(Op.equalIn 10000 T (.agg xs) (.agg ys)).run P w= .ok b w
section
variable{P:Program}{dst:Option Tmp}{ty:TypeId}{pos:String}{af:Array Edge}{gd:Option (Nat×Bool)}{env:Env}
theorem amL{x:Operand}{cs ds:List AV}(hm:P.eqGuardType P.depth T=false)(hx:Ev env x (.agg cs))(hy:Ev env y (.agg ds))(h:atJ P T cs ds b):
  APure P ⟨dst,.binOp .eql T x y T',ty,pos,af,gd⟩ env (.bool b):=by
 intro g n a ka;obtain⟨v,he,hv⟩:=ev1 hx ka;obtain⟨u,hf,hu⟩:=ev1 hy ka;obtain⟨vs,rfl,hr⟩:=hv.cells_agg;obtain⟨us,rfl,hs⟩:=hu.cells_agg;refine⟨_,.bool _,λw _=>aiI he hf (run_eqGuard_agg w _ _ _ _ _ _ hm) ?_⟩;rw[run_eql_struct,h g vs us w hr hs];rfl
theorem bbJ{x:Operand}{cs ds:List AV}(hm:P.eqGuardType P.depth T=false)(hx:Ev env x (.agg cs))(hy:Ev env y (.agg ds))(h:atJ P T cs ds b):
  APure P ⟨dst,.binOp .neq T x y T',ty,pos,af,gd⟩ env (.bool (!b)):=by
 intro g n a ka;obtain⟨v,he,hv⟩:=ev1 hx ka;obtain⟨u,hf,hu⟩:=ev1 hy ka;obtain⟨vs,rfl,hr⟩:=hv.cells_agg;obtain⟨us,rfl,hs⟩:=hu.cells_agg;refine⟨_,.bool _,λw _=>aiI he hf (run_eqGuard_agg w _ _ _ _ _ _ hm) ?_⟩;rw[run_neq_struct,h g vs us w hr hs];rfl
end
end
section
open Go Go.RowKit
theorem boR{env:Env}:Ev env (.const .nilFunc) .nilFunc:=.const _ _ λ_=>.nilFunc
def ents(k:IntKind)(M:List (Int×AV)):List (AV×AV):=M.map λe=>(.int k e.1,e.2)
def ceI:List (Int×AV)→Int→Option AV
 | [],_=>none
 |(d,y)::r,c=>if d=c then some y else ceI r c
def cjI:List (Int×AV)→Int→AV→List (Int×AV)
 | [],c,x=>[(c,x)]
 |(d,y)::r,c,x=>if d=c then(c,x)::r else(d,y)::cjI r c x
def cjJ:List (Int×AV)→Int→List (Int×AV)
 | [],_=>[]
 |(d,y)::r,c=>if d=c then r else(d,y)::cjJ r c
inductive RelM (g:G) (k:IntKind):List (Int×AV)→List MapEntry→Prop
 |nil:RelM g k [] []
 |cons {c:Int} {x:AV} {M:List (Int×AV)} {e:MapEntry} {l:List MapEntry} (h:e.key= .int k c) (hv:RelV g x e.val) (r:RelM g k M l):RelM g k ((c,x)::M) (e::l)
theorem RelM.of{g:G}{k:IntKind}:∀{M:List (Int×AV)}{l:List MapEntry},RelEnts g (ents k M) l.toArray→RelM g k M l
 | [],l,h=>by
  have:=h.1;cases l with
  |nil=>exact .nil
  |cons e l=>simp[ents]at this
 |(c,x)::M,l,h=>by
  have h1:=h.1;cases l with
  |nil=>simp[ents]at h1
  |cons e l=>
   have h0:=h.2 0 (.int k c) x e rfl aF;refine .cons ?_ h0.2 (RelM.of ⟨by simpa[ents]using h1,λi k' y e' he he'=>h.2 (i+1) k' y e' (by simpa[ents]using he) (by simpa using he')⟩);have h2:=h0.1;generalize e.key=key at h2;cases h2;rfl
theorem RelM.to(h:RelM g k M l):RelEnts g (ents k M) l.toArray:=by
 induction h with
 |nil=>exact⟨rfl,λi k x e he=>by simp[ents]at he⟩
 | @cons c x M e l hk hv _ ih=>
  refine⟨by simpa[ents]using ih.1,λi k' y e' he he'=>?_⟩;cases i with
  |zero=>
   simp[ents]at he he';obtain⟨rfl,rfl⟩:=he;subst he';exact⟨hk▸ .int _ _,hv⟩
  |succ i=>exact ih.2 i k' y e' (by simpa[ents]using he) (by simpa using he')
theorem RelM.find{kt:IntKind}(h:RelM g k M l)(c:Int):∀i:Nat,
  (ceI M c=none∧Instr.findNow (.int kt) (.int k c) l i=some none∧cjJ M c=M∧∀y v b,RelV g y v→RelM g k (cjI M c y) (l++[⟨.int k c,v,b⟩]))∨
  ∃j e x,ceI M c=some x∧Instr.findNow (.int kt) (.int k c) l i=some (some (i+j,e.val))∧RelV g x e.val∧l[j]?=some e∧e.key= .int k c∧RelM g k (cjJ M c) (l.eraseIdx j)∧
   ∀y v,RelV g y v→RelM g k (cjI M c y) (l.modify j λe=>{e with key:=.int k c,val:=v}):=by
 induction h with
 |nil=>exact λi=>.inl ⟨rfl,rfl,rfl,λy v b hv=>.cons rfl hv .nil⟩
 | @cons d x M e l hk hv hr ih=>
  intro i;have hs:Instr.sameNow (.int kt) (.int k c) e.key=some (c==d):=by rw[hk];simp[Instr.sameNow]
  by_cases hd:d=c
  ·subst hd;refine .inr ⟨0,e,x,by simp[ceI],by simp[Instr.findNow,hs],hv,rfl,hk,by simpa[cjJ]using hr,λy v hy=>?_⟩;simp only[cjI,if_true,List.modify];exact .cons rfl hy hr
  have hsf:Instr.sameNow (.int kt) (.int k c) e.key=some false:=by rw[hs,beq_eq_false_iff_ne.2 (λh=>hd h.symm)]
  rcases ih (i+1)with⟨h1,h2,h3,h4⟩|⟨j,e',x',h1,h2,h3,h4,h5,h6,h7⟩
  ·refine .inl ⟨by simp[ceI,hd,h1],by simp only[Instr.findNow,hsf,h2],by simp[cjJ,hd,h3],λy v b hy=>?_⟩;simp only[cjI,hd,if_false,eE];exact .cons hk hv (h4 y v b hy)
  refine .inr ⟨j+1,e',x',by simp[ceI,hd,h1],by simp only[Instr.findNow,hsf,h2];rw[show i+1+j=i+(j+1) by omega],h3,by simpa using h4,h5,?_,λy v hy=>?_⟩
  ·simp only[cjJ,hd,if_false,List.eraseIdx_cons_succ];exact .cons hk hv h6
  simp only[cjI,hd,if_false,List.modify_succ_cons];exact .cons hk hv (h7 y v hy)
theorem RelM.none(h:RelM g k M l){c:Int}(hc:ceI M c= .none):∀e∈l,e.key≠ .int k c:=by
 induction h with
 |nil=>intro e he;simp at he
 | @cons d x M e l hk hv hr ih=>
  simp only[ceI]at hc;split at hc
  ·cases hc
  rename_i hd
  intro e' he';rcases dG.1 he' with rfl|he'
  ·rw[hk];intro h;cases h;exact hd rfl
  exact ih hc e' he'
/-! ### the operations -/
section
variable{P:Program}{dst:Option Tmp}{ty:TypeId}{pos:String}{af:Array Edge}{gd:Option (Nat×Bool)}{env:Env}{H:Heap}
theorem Sat.entries{H:Heap}(s:Sat g H w){m:Nat}(hm:H.objs m=some (.map (ents k M))):
  ∃es clock,w.heap[m]?=some (.map es clock)∧RelM g k M es.toList∧MapKept.Stamped es clock:=by
 obtain⟨es,clock,h1,h2⟩:=s.map m _ hm;exact⟨es,clock,h1,RelM.of h2.1,h2.2⟩
theorem RelM.length(h:RelM g k M l):l.length=M.length:=by
 induction h with
 |nil=>rfl
 |cons _ _ _ ih=>simp[ih]
end
end
theorem Sat.grow{w':World}(s:Sat g H w)(hb:Below w.heap.size w w'):Sat g H w':=by
 have old:∀{b:Nat}{o:Obj},w.heap[b]?=some o→w'.heap[b]?=some o:=fun{b o} h=>(hb.block b (cG.1 h).1).trans h
 refine⟨s.below.trans ⟨hb.os,hb.tape,hb.output,hb.size,λk hk=>hb.block k (bQ hk s.below.size)⟩,λb o v hv=>?_,λb T cs h=>?_,λb es h=>?_,λb o h=>old (s.raw b o h),s.own,λt b lo n ht hk hn=>?_,s.tokLt,s.sep⟩
 ·rw[World.cell?_of_block (w:=w) (hb.block b (s.imm_lt hv))];exact s.imm b o v hv
 ·obtain⟨vs,hv,hr⟩:=s.box b T cs h;exact⟨vs,hv.same old,hr⟩
 ·obtain⟨en,cl,hv,hr⟩:=s.map b es h;exact⟨en,cl,old hv,hr⟩
 obtain⟨h1,h2,h3,c,T,h4,h5⟩:=s.tok t b lo n ht hk hn;exact⟨h1,h2,h3,c,T,old h4,h5⟩
theorem Sat.ownedRow{w':World}(s:Sat g H w)(hb:Below w.heap.size w w'){v:Value}{n:Nat}{xs:List Int}(ho:w'.ownsRow w.heap.size T 1 v n (xs.map (Value.int .i64))):
  ∃g',g.le g'∧RelV g' (.slice 1 (xs.map (AV.int .i64)) .shared) v∧Sat g' H w':=by
 obtain⟨hlen,⟨rfl,rfl⟩|⟨b,cap,cur,rfl,hbase,hw,hcap,hmax,hcur,hx⟩⟩:=ho
 ·simp at hlen;subst hlen;exact⟨g,G.le.refl g,.nilSlice _ _,s.grow hb⟩
 have hn:xs.length=n:=by simpa using hlen
 have hcell:∀o u,(if o<n then cur[o]? else none)=some u→w'.cell? ⟨b,o,none⟩=some u:=λo u h=>by
  split at h
  ·unfold World.cell?;rw[hw];simpa using h
  cases h
 have hold:∀o u,g.imm b o=some u→(if o<n then cur[o]? else none)=some u:=λo u h=>by have:=s.imm_lt h;omega
 have hnone:H.objs b=none:=by
  cases h:H.objs b with
  |none=>rfl
  |some x=>have:=s.obj_lt h;omega
 have htok:∀t lo n' o,H.toks t=true→g.tok t=some (b,lo,n')→n'≠0→lo≤o→(if o<n then cur[o]? else none)=none:=λt lo n' o ht hk hn' _=>by
  obtain⟨_,_,_,c,T',h4,_⟩:=s.tok t b lo n' ht hk hn';have:=(cG.1 h4).1;omega
 have s':=(s.grow hb).addImm (f:=λo=>if o<n then cur[o]? else none) hcell hold hnone htok;refine⟨_,G.le_addImm hold,?_,s'⟩;have hval:∀i,(h:i<n)→cur[i]?=some (.int .i64 (xs[i]'aA)):=λi h=>by
  have h1:(cur.toList.take (n*1))[i]?=(xs.map (Value.int .i64))[i]?:=by rw[hx]
  rw[eT,aK,cT,show xs[i]?=some (xs[i]'aA)from aX aA]at h1;simpa using h1
 have hsl:=RelV.slice (g:=g.addImm b λo=>if o<n then cur[o]? else none) 1 (xs.map (AV.int .i64)) .shared b 0 cap (λi=>cur.getD i undef) (zX xs)
  (λi hi=>by
    have hi':i<n:=by simpa[hn]using hi
    rw[G.imm_addImm,bZ,aN hi',hval i hi'];simp[hval i hi'])
  (λi j x c hx' hc=>by
    have hi:i<n:=by have:=(bT.1 hx').1;simpa[hn]using this
    have hxi:x= .int .i64 (xs[i]'aA):=by simpa[show i<xs.length by omega]using hx'.symm
    subst hxi;cases j with
    |zero=>
      simp[AV.cells]at hc;subst hc;have:cur.getD (i*1+0) undef= .int .i64 (xs[i]'aA):=by simp[hval i hi]
      rw[this];exact .int _ _
    |succ j=>simp[AV.cells]at hc)
  aG hmax trivial
 simpa[hn]using hsl
section
open Go Go.RowKit
structure MRow (N:Nat→Prop) (H:Heap) (a:Option Addr) (xs:List Int) (c:Nat):Prop where
 cap:xs.length≤c
 max:c≤maxLen
 form:(a=none∧c=0)∨∃b,a=some ⟨b,0,none⟩
 at_:xs=[]∨∃b T cs,a=some ⟨b,0,none⟩∧N b∧H.objs b=some (.box T cs)∧cs.take xs.length=xs.map (.int .i64)
theorem MRow.mono{N':Nat→Prop}{xs:List Int}{c:Nat}(h:MRow N H a xs c)(hl:H.le H')(hn:∀b,N b→N' b):MRow N' H' a xs c:=
 ⟨h.cap,h.max,h.form,h.at_.imp id λ⟨b,T,cs,h1,h2,h3,h4⟩=>⟨b,T,cs,h1,hn b h2,hl.objs _ _ h3,h4⟩⟩
def MSame(N:Nat→Prop)(a:Option Addr)(H H':Heap):Prop:=H'=H∨∃b T cs,a=some ⟨b,0,none⟩∧N b∧H'=H.set b (.box T cs)
theorem MSame.le{H0:Heap}(h:MSame N a H H')(hl:H0.le H)(hn:∀b,N b→H0.objs b=none):H0.le H':=by
 rcases h with rfl|⟨b,T,cs,_,hb,rfl⟩
 ·exact hl
 refine⟨λk x hx=>?_,λt ht=>hl.toks t ht⟩;have hk:k≠b:=by rintro rfl;rw[hn _ hb]at hx;cases hx
 rw[Heap.objs_set_ne _ _ hk];exact hl.objs _ _ hx
theorem MSame.objs(h:MSame N a H H'){k:Nat}(hk:¬N k):H'.objs k=H.objs k:=by
 rcases h with rfl|⟨b,T,cs,_,hb,rfl⟩
 ·rfl
 exact Heap.objs_set_ne _ _ (by rintro rfl;exact hk hb)
theorem MSame.toks(h:MSame N a H H'):H'.toks=H.toks:=by
 rcases h with rfl|⟨b,T,cs,_,hb,rfl⟩<;>rfl
theorem Heap.set_self{b:Nat}{x:AObj}(h:H.objs b=some x):H.set b x=H:=by
 cases H with
 |mk objs toks=>
  simp only[Heap.set,Heap.mk.injEq,and_true]
  funext k
  split
  ·rename_i e;subst e;exact h.symm
  rfl
theorem Sat.ahead(s:Sat g H w)(q:Nat):Sat g H (Sort.ahead w q):={
  below:=⟨s.below.os,s.below.tape,s.below.output,s.below.size,s.below.block⟩
  imm:=s.imm
  box:=s.box
  map:=s.map
  raw:=s.raw
  own:=s.own
  tok:=s.tok
  tokLt:=s.tokLt
  sep:=s.sep}
theorem Sat.holds(s:Sat g H w){b:Nat}{cs:List AV}{xs:List Int}(hb:H.objs b=some (.box T cs))(hx:cs.take xs.length=xs.map (.int .i64)):Sort.Holds (Value.int .i64) w b 0 xs.toArray:=by
 obtain⟨vs,hw,hr⟩:=s.box b T cs hb;intro j hj;have hj':j<xs.length:=by simpa using hj
 have hc:cs[j]?=some (.int .i64 xs[j]):=by
  have:(cs.take xs.length)[j]?=(xs.map (AV.int .i64))[j]?:=by rw[hx]
  rw[eT,aN hj']at this;simpa[hj']using this
 obtain⟨v,hv,hrel⟩:=hr.at hc;cases hrel
 refine⟨?_,?_⟩
 ·rw[hw.cell,bZ];simpa[hj']using hv
 exact hw.thaw (by have:=(cG.1 hv).1;omega)
theorem Sat.putRow{g:G}{H:Heap}{w:World}(s:Sat g H w){b:Nat}{T:TypeId}{cs:List AV}(hb:H.objs b=some (.box T cs))(ys:List Int)(hl:ys.length≤cs.length)(q:Nat):
  Sat g (H.set b (.box T (ys.map (.int .i64)++cs.drop ys.length))) (Sort.putRow (Value.int .i64) (Sort.ahead w q) b 0 ys.toArray):=by
 obtain⟨vs,⟨fz,hw,hth⟩,hr⟩:=s.box b T cs hb;refine(s.ahead q).turn hb (λk hk=>?_) (by simp[Sort.putRow,Sort.mapBlock,Sort.ahead]) rfl rfl rfl ⟨Sort.putCells (Value.int .i64) 0 ys.toArray vs,⟨fz,?_,by simpa[Sort.putCells]using hth⟩,?_⟩
 ·show(w.heap.modify b _)[k]?=w.heap[k]?;rw[Array.getElem?_modify,aM (λh=>hk h.symm)]
 ·show(w.heap.modify b _)[b]?=_;rw[Array.getElem?_modify,aN rfl,hw];rfl
 have hsz:=hr.1;refine⟨by simp[Sort.putCells];omega,λi c v hc hv=>?_⟩;simp only[Sort.putCells,Array.getElem?_mapIdx]at hv;rw[eJ]at hc;simp only[cE]at hc;by_cases hi:i<ys.length
 ·rw[aN hi]at hc;have hc':c= .int .i64 ys[i]:=by simpa[hi]using hc.symm
  cases hvi:vs[i]? with
  |none=>rw[hvi]at hv;cases hv
  |some u=>
   rw[hvi]at hv;have hv':v= .int .i64 ys[i]:=by simpa[hi]using hv.symm
   subst hc';subst hv';exact .int _ _
 rw[aM hi,eK,show ys.length+(i-ys.length)=i by omega]at hc;cases hvi:vs[i]? with
 |none=>rw[hvi]at hv;cases hv
 |some u=>
  rw[hvi]at hv;have hv':v=u:=by simpa[hi]using hv.symm
  subst hv';exact hr.2 i c v hc hvi
section
variable{P:Program}{env:Env}{H:Heap}{dst:Option Tmp}{ty:TypeId}{pos:String}{af:Array Edge}{gd:Option (Nat×Bool)}
theorem alH{x:Operand}{lo hi:Option Operand}{l h:Option Nat}{sz len cap:Nat}(hu:P.underlying T=some (.slice E))(hs:∀w,(sizeOf E).run P w= .ok sz w)
  (hx:Ev env x (.mslice a len cap))(hlo:OptEv env lo l)(hhi:OptEv env hi h)(h1:l.getD 0≤h.getD len)(h2:h.getD len≤cap):
  APure P ⟨dst,.slice T x lo hi none,ty,pos,af,gd⟩ env (.mslice (if cap=l.getD 0 then a else a.map (·.add (l.getD 0*sz))) (h.getD len-l.getD 0) (cap-l.getD 0)):=by
 intro g n ac ka;obtain⟨v,he,hv⟩:=ev1 hx ka;have slo:=hlo.spec ka;have shi:=hhi.spec ka;cases hv
 have hb:=ajO (P:=P) (len:=len) (cap:=cap) slo shi h1 h2;exact⟨_,.mslice _ _ _,λw _=>by simp[execOp,he,Instr.sliceAt,Instr.slice,underlying,hu,hs,hb w]⟩
end
end
section
open Go Go.RowKit
section
variable{P:Program}{env:Env}{H:Heap}{dst:Option Tmp}{ty:TypeId}{pos:String}{af:Array Edge}{gd:Option (Nat×Bool)}
theorem aoZ{S:TypeId}{fs:Array Field}{f k:Nat}{fd:Field}{x:Operand}{cs:List AV}{c:AV}(hu:P.underlying S=some (.struct fs))(hf:fs[f]?=some fd)(ha:∀w,(isAgg fd.type).run P w= .ok false w)(_hs:∀w,(sizeOf fd.type).run P w= .ok k w)
  (hx:Ev env x (.agg cs))(hc:cs[fd.offset]?=some c):APure P ⟨dst,.field S x f,ty,pos,af,gd⟩ env c:=by
 intro g n a ka;obtain⟨v,he,hv⟩:=ev1 hx ka;obtain⟨vs,rfl,hr⟩:=hv.cells_agg;obtain⟨u,hu',hrel⟩:=hr.at hc;have hlt:fd.offset<vs.size:=(cG.1 hu').1;refine⟨u,hrel,λw _=>?_⟩;simp[execOp,he,Instr.field,underlying,hu,hf,asAgg,part,ha,hu']
theorem bcQ{sz:Nat}:∀(qs:List (Nat×AV))(k:Nat)(cs:List AV),qs.map (·.1)=List.range' k qs.length→(∀q,q∈qs→q.2.row sz)→cs.length=(k+qs.length)*sz→
  aiR (λi=>some (i*sz,sz)) cs qs=some (cs.take (k*sz)++(qs.map (·.2)).flatMap AV.cells)
 | [],k,cs,_,_,hl=>by
  simp only[bG,cA]at hl;simp only[aiR,List.map_nil,List.flatMap_nil,bU];rw[aY aA]
 |(i,x)::qs,k,cs,hi,hr,hl=>by
  simp only[dX,aW,List.range'_succ,List.cons.injEq]at hi;obtain⟨rfl,hi⟩:=hi;have hx:=(hr (i,x) aF).1;simp only at hx;simp only[aW]at hl;have e1:(i+(qs.length+1))*sz=i*sz+sz+qs.length*sz:=by rw[bY,bY,cQ];omega
  simp only[aiR];rw[aN ⟨hx,by omega⟩];rw[bcQ qs (i+1) _ hi (λq hq=>hr q (by simp[hq])) (by simp only[putRow,aO,aV,bO];rw[hx,show(i+1+qs.length)*sz=i*sz+sz+qs.length*sz by rw[bY,bY,cQ]];omega)];have e2:(i+1)*sz=i*sz+sz:=by rw[bY,cQ]
  simp only[putRow,dX,dY];rw[dU aG,aY aG];simp
theorem Parts.idx{env:Env}{ps:List (Nat×Operand)}(h:Parts env ps qs):qs.map (·.1)=ps.map (·.1)∧qs.length=ps.length:=by
 induction h with
 |nil=>exact⟨rfl,rfl⟩
 |cons _ _ _ ih=>exact⟨by simp[ih.1],by simp[ih.2]⟩
theorem awY{len sz:Nat}{ops:List (Nat×Operand)}(hu:P.underlying T=some (.slice E))(hs:∀w,(sizeOf E).run P w= .ok sz w)(hz:∀w,(zeroValue E).run P w= .ok z w)
  (hsz:Nat.ble (len*sz) 16777216=true)(hln:Nat.ble len 16777216=true)(hi:ops.map (·.1)=List.range' 0 len)(hq:Parts env ops qs)(hr:∀q,q∈qs→q.2.row sz):
  AStep P ⟨dst,.buildSlice T len ops.toArray,ty,pos,af,gd⟩ env H (λy H'=>y= .slice sz (qs.map (·.2)) .full∧H'=H):=by
 have hlen:ops.length=len:=by have:=congrArg List.length hi;simpa using this
 obtain⟨h1,h2⟩:=hq.idx;refine adB (xs:=qs.map (·.2)) hu hs hz (λg=>amD g _ _) hsz hln hq (λx hx=>?_) aG ?_
 ·obtain⟨q,hq',rfl⟩:=fW.1 hx;exact hr q hq'
 rw[bcQ qs 0 _ (by rw[h1,hi,h2,hlen]) hr (by simp;rw[h2,hlen])];simp
theorem brW{sz:Nat}:∀q,q∈([]:List (Nat×AV))→q.2.row sz:=λq hq=>by simp at hq
theorem afQ{sz i:Nat}{x:AV}(h:x.row sz)(k:∀q,q∈qs→q.2.row sz):∀q,q∈(i,x)::qs→q.2.row sz:=λq hq=>by
 rcases dG.1 hq with rfl|h'
 ·exact h
 exact k q h'
end
end
end Go.Proofs.YteedncdcbgplfaaGreatDoor
