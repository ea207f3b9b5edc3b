import Derived.Test.YteedncdcbgplfaaGreatDoorK1
set_option maxHeartbeats 1000000
namespace Go.Proofs.YteedncdcbgplfaaGreatDoor
open Go.Proofs.Tryz
open Go Go.RowKit
set_option maxRecDepth 100000
variable{n r u:Nat}
theorem eqInI(d:Nat)(a b a2 b2:Int)(w:World):(Op.equalIn (d+2) 256 (.agg #[.int .i64 a,.int .i64 b]) (.agg #[.int .i64 a2,.int .i64 b2])).run prog w= .ok (decide (a=a2∧b=b2)) w:=by
 have u3:=U3;have a3:=G3;have z3:=Z3;have hS:prog.underlying 256=some (.struct (prog.fieldsOf 256)):=by kernel_rfl
 have hp:prog.stoodInHeld 256=false:=by kernel_rfl
 rw[run_equalIn_agg w (d+1) 256 _ _ hS hp];simp only[Program.fieldsOf,U256]
 go_simp
 by_cases h1:a=a2<;>by_cases h2:b=b2<;>simp[h1,h2]
theorem eqI(a b a2 b2:Int):bcC prog 256 [.int .i64 a,.int .i64 b] [.int .i64 a2,.int .i64 b2] (decide (a=a2∧b=b2)):=λg xs ys w h k=>by
 rw[h.plain [.int .i64 a,.int .i64 b] rfl,k.plain [.int .i64 a2,.int .i64 b2] rfl];exact eqInI 9998 a b a2 b2 w
def trR(st:Nat×Nat):AObj:=.box 256 [.int .i64 (st.1:Int),.int .i64 (st.2:Int)]
def bdQ(r unit:Nat)(st:Nat×Nat):AObj:=.box 159 [qE (acU r unit st.1 st.2)]
theorem bxL{unit p q:Nat}{st:Nat×Nat}(h:¬((¬((p:Int)=st.1∧(q:Int)=st.2))∧acU r unit p q*st.2<acU r unit st.1 st.2*q)):tryN r unit st p q=st:=by
 by_cases e:(p:Int)=st.1∧(q:Int)=st.2
 ·exact bcE (Prod.ext aG aG)
 unfold tryN;rw[aM (λz=>h ⟨e,z⟩)]
theorem awD(r unit:Nat)(st:Nat×Nat)(p q:Nat)(b1 b2:Nat)(hne:b1≠b2)(hO:∀a b,a≤10000→b≤10000→acU r unit a b<BIG)(hO2:∀a b c,a≤10000→b≤10000→c≤10000→acU r unit a b*c<BIG)(hp:p≤10000)(hq:q≤10000)(hs1:st.1≤10000)(hs2:st.2≤10000)(hB0:100000<BIG)(H:Heap)(hb1:H.objs b1=some (trR st))(hb2:H.objs b2=some (bdQ r unit st)):ACall prog 188 [.agg [.int .i64 (p:Int),.int .i64 (q:Int)],qE (acU r unit p q),.ptr (some ⟨b1,0,none⟩),.ptr (some ⟨b2,0,none⟩)] H (λ_ H'=>H'=(H.set b1 (trR (tryN r unit st p q))).set b2 (bdQ r unit (tryN r unit st p q))):=by
 refine ACall.of_body func188 rfl ntmps188 results188 rfl ?_;iterate 6 refine AX ?_
 refine AWP.drawI (λH2=>H2.objs b1=some (trR st)∧H2.objs b2=some (bdQ r unit st)) [(0,true),(1,true),(2,true),(3,true),(4,true),(5,true),(6,true),(7,true),(8,true),(9,true),(10,true),(11,true),(12,true),(13,true),(14,true)] (by exact⟨hb1,hb2⟩) rfl aE ?_;refine AX ?_;refine APlanI.f rfl rfl (λ_ hI=>zZ isAgg256 Z256 (tm rfl) (hI.1) (lB rfl)) ?_;refine APlanI.p rfl rfl (blC eqGuardType256 (tm rfl) (tm rfl) (eqI _ _ _ _)) ?_;refine AX ?_;refine ajN (t:=9) rfl (λhg9=>?_) (λhg9=>?_)
 ·refine AX ?_;refine APlanI.gp rfl rfl rfl rfl aB (zG U256 rfl Z3 (tm rfl)) ?_;refine APlanI.gf rfl rfl rfl rfl aB (λ_ hI=>zP G3 (tm rfl) (hI.1) rfl) ?_;refine APlanI.gf rfl rfl rfl rfl aB (λ_ hI=>zD call190 (evs2 rfl rfl) (ahC (acU r unit p q) st.2 (hO _ _ hp hq) aA aA (hO2 _ _ _ hp hq hs2) _)) ?_;refine APlanI.gf rfl rfl rfl rfl aB (λ_ hI=>zP isAgg159 (tm rfl) (hI.2) rfl) ?_;refine APlanI.gp rfl rfl rfl rfl aB (zA U256 rfl Z3 (tm rfl)) ?_;refine AX ?_;refine APlanI.gf rfl rfl rfl rfl aB (λ_ hI=>zD call190 (evs2 rfl rfl) (ahC (acU r unit st.1 st.2) q (hO _ _ hs1 hs2) aA aA (hO2 _ _ _ hs1 hs2 hq) _)) ?_;refine APlanI.gf rfl rfl rfl rfl aB (λ_ hI=>zD call189 (evs2 rfl rfl) (cmpB _ _ (hO2 _ _ _ hp hq hs2) (hO2 _ _ _ hs1 hs2 hq) _)) ?_;iterate 4 refine AX ?_
  refine AWP.cx rfl (λhc20=>?_) (λhc20=>?_)
  ·iterate 3 refine AX ?_
   refine .e0 (zM Z256 (tm rfl) (tm rfl) rfl rfl (.inr ⟨_,rfl⟩) (hb1) (lB rfl)) ?_;try first|rw[sS]|rw[sU aB]
   refine .e0 (zM Z159 (tm rfl) (tm rfl) rfl rfl (.inl rfl) ((oN _ _ hne.symm).trans hb2) (lB rfl)) ?_;try first|rw[sS]|rw[sU aB]
   refine AX ?_;refine Ret.go' .nil _ (hRa _) ?_;have e:tryN r unit st p q=(p,q):=by unfold tryN;rw[aN (buC hc20)]
   rw[e];rfl
  refine AX ?_;refine Ret.go' .nil _ (hRa _) ?_;have hge:=byV (a:=acU r unit p q*st.2) (b:=acU r unit st.1 st.2*q) aA;have e:tryN r unit st p q=st:=by unfold tryN;rw[aJ]
  rw[e,Heap.set_self hb1,Heap.set_self hb2]
 iterate 13 refine AX ?_
 refine AWP.cond_false (tm rfl) aD ?_;refine AX ?_;refine Ret.go' .nil _ (hRa _) ?_;have e:tryN r unit st p q=st:=bxL (λz=>z.1 (by simpa using hg9));rw[e,Heap.set_self hb1,Heap.set_self hb2]
theorem zr159:ZR 159 [.slice 1 [] .full]:=ZRi V159
theorem zr174:ZR 174 [.bool false,.str [],.int .i64 0,.int .i64 0,.int .i64 0]:=ZRi zeroValue174
theorem pl174:PL 174 [(0,3),(3,1),(4,1)]:=PLi U174
theorem zr256:ZR 256 [.int .i64 0,.int .i64 0]:=ZRi zeroValue256
theorem pl256:PL 256 [(0,1),(1,1)]:=PLi U256
def frC(r:(Bool×List UInt8×Int)×Nat×Nat):List AV:=[.bool r.1.1,.str r.1.2.1,.int .i64 r.1.2.2,.int .i64 (r.2.1:Int),.int .i64 (r.2.2:Int)]
def frZ:AObj:=.box 174 [.bool false,.str [],.int .i64 0,.int .i64 0,.int .i64 0]
theorem shrZ(a s:Nat)(q:Int)(hq:q=(s:Int))(h:a<BIG)(hs:s<1000000000):Fn 169 [qE a,.int .i64 q] (.tuple [qE (a/2^s),.bool (decide (a%2^s≠0)),.int .i64 0]):=by
 intro H;subst hq;exact shrB a s h hs H
theorem shlOne(s:Nat)(q:Int)(hq:q=(s:Int))(tl:Tail)(h:2^s<BIG)(hs:s<1000000000):Fn 168 [.slice 1 (U .u32 [1]) tl,.int .i64 q] (.tuple [qE (2^s),.int .i64 0]):=by
 intro H;subst hq;have:=ayX [1] tl (Limbs.mk aC Limbs.nil) aF s (by rw[show val [1]=1 from rfl,cS];exact h) hs H
 rwa[show val [1]=1 from rfl,cS]at this
theorem addOne(a:Nat)(tl:Tail)(h:a+1<BIG):Fn 107 [qE a,.slice 1 (U .u32 [1]) tl] (.tuple [qE (a+1),.int .i64 0]):=by
 intro H;have:=azH (zK a) .shared (zL a) (aiU aA) [1] tl (Limbs.mk aC Limbs.nil) aF H
 rwa[zR,show val [1]=1 from rfl,btZ,asB h]at this
theorem bvA{K:Heap}{b c d:Nat}(h1:b≠c)(h2:b≠d)(x y w x':AObj):(((K.set b x).set c y).set d w).set b x'=((K.set b x').set c y).set d w:=by
 rw[Heap.set_comm h2.symm w x',sU h1]
theorem bjU{K:Heap}{c d:Nat}(h:c≠d)(y w y' w':AObj):(((K.set c y).set d w).set c y').set d w'=(K.set c y').set d w':=by
 rw[sU h,sS]
theorem bdP{s:Nat}(hs:s≤3300)(hr:r<2^s):(∀a b,a≤10000→b≤10000→acU r (2^s) a b<BIG)∧(∀a b c,a≤10000→b≤10000→c≤10000→acU r (2^s) a b*c<BIG)∧(∀b,b≤10000→r*b<BIG)∧2^s<BIG:=by
 have key:100000000*2^s<BIG:=bI (bG _ aC) (aoR hs);have hu:0<2^s:=cJ aC;generalize 2^s=u at *;have h1:∀a b,a≤10000→b≤10000→acU r u a b≤10000*u:=λa b ha hb=>by
  have h2:=byI r u a b;have h3:r*b≤u*10000:=eU (eS hr) hb;have h4:u*a≤u*10000:=dV _ ha;omega
 refine⟨λa b ha hb=>?_,λa b c ha hb hc=>?_,λb hb=>?_,by omega⟩
 ·have:=h1 a b ha hb;omega
 ·have h2:acU r u a b*c≤(10000*u)*10000:=eU (h1 a b ha hb) hc;omega
 have h3:r*b≤u*10000:=eU (eS hr) hb;omega
theorem bjB{p q:Nat}{st:Nat×Nat}(h:p≤n∧q≤n)(h2:st.1≤n∧st.2≤n):(tryN r u st p q).1≤n∧(tryN r u st p q).2≤n:=by unfold tryN;split;exact h;exact h2
theorem bdD(h:yK r u n=(1,1)):aaF r u n=(1,0,1):=by unfold aaF;rw[aN h]
theorem bdE(h:¬yK r u n=(1,1)):aaF r u n=(0,yK r u n):=by unfold aaF;rw[aM h]
def bkY(x most b4 b18 b19:Nat)(H:Heap):Nat→Env→Heap→Prop:=λk env H1=>∃i:Nat,i≤most∧env=[(4,.ptr (some ⟨b4,0,none⟩)),(6,.bool (ahQ x)),(8,.int .i64 (zH x)),(9,qE (zT x/2^(-zH x).toNat)),(14,qE (zT x%2^(-zH x).toNat)),(16,qE (2^(-zH x).toNat)),(18,.ptr (some ⟨b18,0,none⟩)),(20,.func 188 [.ptr (some ⟨b18,0,none⟩),.ptr (some ⟨b19,0,none⟩)]),(92,.int .i64 (most:Int)),(93,.int .i64 (i:Int))]∧H1=((H.set b4 (frZ)).set b18 (trR (yK (zT x%2^(-zH x).toNat) (2^(-zH x).toNat) i))).set b19 (bdQ (zT x%2^(-zH x).toNat) (2^(-zH x).toNat) (yK (zT x%2^(-zH x).toNat) (2^(-zH x).toNat) i))∧k=most-i
theorem bbX(x most:Nat)(hx:x<18446744073709551616)(hk:yZ x<3)(hm:1≤most∧most≤9999)(H:Heap):ACall prog 104 [.int .u64 (x:Int),.int .i64 (most:Int)] H (λy H'=>y= .tuple [.agg (frC (afB x most)),.int .i64 0]∧H'=H):=by
 have hpm:=agP x;have hpe:=acE x;have hmB:=adO (m:=zT x) aA;have hB0:100000<BIG:=by unfold BIG;decide+kernel
 refine ACall.of_body func104 rfl ntmps104 results104 rfl ?_;iterate 2 refine AX ?_
 refine .al zr174 (λb4 hb4=>?_);iterate 8 refine AX ?_
 refine .cl rfl C31 (evs1 rfl) (aeM x hx _) ?_;iterate 4 refine AX ?_
 refine AWP.cond (tm rfl) (λhc32=>?_) (λhc32=>?_)
 ·try simp only[aL]at hc32
  omega
 try simp only[aL]at hc32
 refine AWP.seqTo 37 (.bool (decide ((most:Int)<1∨9999<(most:Int)))) [0,1,4,5] ?_ ?_
 ·iterate 4 refine AX ?_
  refine zC (t:=40) rfl (λhg40=>?_) (λhg40=>?_)
  ·have hh40:=hg40;try simp only[aL]at hh40
   iterate 5 refine AX ?_
   exact⟨rfl,zO rfl (by(refine Eq.symm ?_;first|exact aO.2 aA|exact aQ aA|exact aP aA)) sX,rfl⟩
  have hh40:=hg40;try simp only[aL]at hh40
  iterate 5 refine AX ?_
  exact⟨rfl,zO rfl (by(refine Eq.symm ?_;first|exact aO.2 aA|exact aQ aA|exact aP aA)) sX,rfl⟩
 refine AWP.sub [(37,_),(0,_),(1,_),(4,_),(5,_)] sX ?_;refine AWP.cond (tm rfl) (λhc37=>?_) (λhc37=>?_)
 ·try simp only[aL]at hc37
  omega
 try simp only[aL]at hc37
 iterate 6 refine AX ?_
 refine .cl rfl call91 (evs1 rfl) (aqT x hx _) ?_;iterate 16 refine AX ?_
 refine AWP.cond (tm rfl) (λhc52=>?_) (λhc52=>?_)
 ·try simp only[aL]at hc52
  iterate 4 refine AX ?_
  refine .cl rfl C93 (evs1 rfl) (aeG (zT x) aA _) ?_;refine AX ?_;refine .cl rfl call92 (evs3 rfl rfl rfl) (aoK (ahQ x) (zT x) (zH x) aA hpe _) (.p rfl (qU zr174 pl174 (.cons (tm rfl) (.inr ⟨_,rfl⟩) (.cons zJ (.inl rfl) (.cons zJ (.inl rfl) .nil))) rfl) (.e0 (zM Z174 (tm rfl) (tm rfl) rfl rfl (.inr ⟨_,rfl⟩) (oS _ _ _) (lB rfl)) ?_));try first|rw[sS]|rw[sU aB]
  iterate 3 refine AX ?_
  refine AWP.frz (t:=4) rfl hb4 ?_;iterate 2 refine AX ?_
  refine Ret.go (.cons (.cellI _ _ _ _ rfl isAgg174 Z174 rfl) (.cons (.tmp _ _ rfl) .nil)) _ (hRa _) ?_;refine⟨?_,rfl⟩;unfold afB;rw[aK];rfl
 try simp only[aL]at hc52
 have hse: -zH x=(((-zH x).toNat:Nat):Int):=by omega
 have hS:(-zH x).toNat≤1075:=by omega
 have hu0:0<(2^(-zH x).toNat):=cJ aC;have hrl:(zT x%2^(-zH x).toNat)<(2^(-zH x).toNat):=bX _ hu0;obtain⟨hO,hO2,hRb,hUB⟩:=bdP (show(-zH x).toNat≤3300 by omega) hrl;have hWl:(zT x/2^(-zH x).toNat)≤zT x:=eY _ _;have hWu:(zT x/2^(-zH x).toNat)*(2^(-zH x).toNat)≤zT x:=Nat.div_mul_le_self _ _;have hres:zT x-(zT x/2^(-zH x).toNat)*(2^(-zH x).toNat)=(zT x%2^(-zH x).toNat):=by have:=Nat.mod_add_div (zT x) (2^(-zH x).toNat);rw[bO]at this;omega
 iterate 5 refine AX ?_
 refine .cl rfl C93 (evs1 rfl) (aeG (zT x) aA _) ?_;iterate 2 refine AX ?_
 refine .cl rfl call169 (evs2 rfl rfl) (shrZ (zT x) (-zH x).toNat _ hse hmB aA _) ?_;iterate 14 refine AX ?_
 refine .cl rfl C168 (evs2 rfl rfl) (shlZ (zT x/2^(-zH x).toNat) (-zH x).toNat _ hse (bI hWu hmB) aA _) ?_;iterate 10 refine AX ?_
 refine .cl rfl C93 (evs1 rfl) (aeG (zT x) aA _) ?_;refine AX ?_;refine .cl rfl call187 (evs2 rfl rfl) (subB (zT x) ((zT x/2^(-zH x).toNat)*(2^(-zH x).toNat)) hmB hWu _) ?_;rw[hres];iterate 9 refine AX ?_
 refine .e rfl (yP U159 Z210 V210 rfl (yT 1) (.inl rfl) ⟨rfl,rfl⟩) ?_;iterate 2 refine AX ?_
 refine .cl rfl C168 (evs2 rfl rfl) (shlOne (-zH x).toNat _ hse _ hUB aA _) ?_;iterate 9 refine AX ?_
 refine .p rfl (qU zr256 pl256 (.cons zJ (.inl rfl) (.cons zJ (.inl rfl) .nil)) rfl) ?_;refine AX ?_;refine .al zr256 (λb18 hb18=>?_);have hn4_18:=Heap.ne_of (oS _ _ _) hb18;refine .al zr159 (λb19 hb19=>?_);have hn4_19:=Heap.ne_of (oS _ _ _) hb19;have hn18_19:=Heap.ne_of (oS _ _ _) hb19;refine .e0 (zM Z256 (tm rfl) (tm rfl) rfl rfl (.inr ⟨_,rfl⟩) ((oN _ _ (Heap.fresh_ne hb19)).trans (oS _ _ _)) (lB rfl)) ?_;have hne89:=Heap.fresh_ne hb19;rw[sU hne89];refine .e0 (zM Z159 (tm rfl) (tm rfl) rfl rfl (.inl rfl) (oS _ _ _) (lB rfl)) ?_;try first|rw[sS]|rw[sU aB]
 iterate 4 refine AX ?_
 refine .p rfl (bgC (tm rfl) (tm rfl)) ?_;iterate 5 refine AX ?_
 have hne48:=Heap.fresh_ne hb18;have hf18:=fS hb18;have hf19:∀y z,((H.set b4 y).set b18 z).objs b19=none:=λy z=>by
  have hne49:b19≠b4:=λe=>by
   subst e;rw[oN _ _ hne89.symm,oS]at hb19;cases hb19
  rw[oN _ _ hne89.symm,oN _ _ hne49]at hb19 ⊢;exact hb19
 have hne49:b4≠b19:=λe=>by
  subst e;rw[oN _ _ hne89.symm,oS]at hb19;cases hb19
 iterate 6 refine AX ?_
 refine AWP.loopW (bkY x most b4 b18 b19 H) (most) ⟨0,Nat.zero_le _,rfl,by unfold bdQ;rw[show acU (zT x%2^(-zH x).toNat) (2^(-zH x).toNat) (yK (zT x%2^(-zH x).toNat) (2^(-zH x).toNat) 0).1 (yK (zT x%2^(-zH x).toNat) (2^(-zH x).toNat) 0).2=(zT x%2^(-zH x).toNat)from blT _ _];rfl,rfl⟩ sX (hRa _) ?_;rintro _ _ _ ⟨i,hi,rfl,rfl,rfl⟩;iterate 6 refine AX ?_
 refine AWP.cond (tm rfl) (λhc94=>?_) (λhc94=>?_)
 ·try simp only[aL]at hc94
  obtain⟨P,hP⟩:∃P,P=(zT x%2^(-zH x).toNat)*(i+1)/(2^(-zH x).toNat):=⟨_,rfl⟩;have hPl:P≤9999:=by rw[hP];have:(zT x%2^(-zH x).toNat)*(i+1)/(2^(-zH x).toNat)≤i+1:=Nat.div_le_of_le_mul (bG _ (eS hrl));omega
  have ho1:(zT x%2^(-zH x).toNat)*(i+1)-P*(2^(-zH x).toNat)=acU (zT x%2^(-zH x).toNat) (2^(-zH x).toNat) P (i+1):=by rw[hP,blU]
  have ho2:(2^(-zH x).toNat)-acU (zT x%2^(-zH x).toNat) (2^(-zH x).toNat) P (i+1)=acU (zT x%2^(-zH x).toNat) (2^(-zH x).toNat) (P+1) (i+1):=by rw[hP,bqJ hu0,blU]
  have hlow:P*(2^(-zH x).toNat)≤(zT x%2^(-zH x).toNat)*(i+1):=by rw[hP];exact Nat.div_mul_le_self _ _
  have hhi:acU (zT x%2^(-zH x).toNat) (2^(-zH x).toNat) P (i+1)≤(2^(-zH x).toNat):=by rw[←ho1];have:=Nat.lt_div_mul_add (a:=(zT x%2^(-zH x).toNat)*(i+1)) hu0;rw[←hP]at this;omega
  have hst:(yK (zT x%2^(-zH x).toNat) (2^(-zH x).toNat) i).1≤10000∧(yK (zT x%2^(-zH x).toNat) (2^(-zH x).toNat) i).2≤10000:=by have h1:=alT (zT x%2^(-zH x).toNat) (2^(-zH x).toNat) i;have h2:=alS hrl i;omega
  have hst2:=bjB (r:=(zT x%2^(-zH x).toNat)) (u:=(2^(-zH x).toNat)) (p:=P) (q:=i+1) (n:=10000) aA hst;have hrb1:=hRb (i+1) aA;iterate 13 refine AX ?_
  refine .p rfl (.say (b:=.int .i64 ((i+1:Nat):Int)) (by congr 1) (yU (tm rfl) zJ aA)) ?_;iterate 7 refine AX ?_
  refine .cl rfl call190 (evs2 rfl rfl) (ahC (zT x%2^(-zH x).toNat) (i+1) aA aA aA hrb1 _) ?_;iterate 8 refine AX ?_
  refine .cl rfl call169 (evs2 rfl rfl) (shrZ ((zT x%2^(-zH x).toNat)*(i+1)) (-zH x).toNat _ hse hrb1 aA _) ?_;rw[←hP];iterate 12 refine AX ?_
  refine .cl rfl call191 (evs1 rfl) (valueB P aA _) ?_;iterate 12 refine AX ?_
  refine .cl rfl C168 (evs2 rfl rfl) (shlZ P (-zH x).toNat _ hse (bI hlow hrb1) aA _) ?_;iterate 11 refine AX ?_
  refine .cl rfl call187 (evs2 rfl rfl) (subB ((zT x%2^(-zH x).toNat)*(i+1)) (P*(2^(-zH x).toNat)) hrb1 hlow _) ?_;rw[ho1];iterate 8 refine AX ?_
  have hb1:=(oN ((H.set b4 frZ).set b18 (trR (yK (zT x%2^(-zH x).toNat) (2^(-zH x).toNat) i))) (bdQ (zT x%2^(-zH x).toNat) (2^(-zH x).toNat) (yK (zT x%2^(-zH x).toNat) (2^(-zH x).toNat) i)) hne89).trans (oS (H.set b4 frZ) b18 _);have hb2:=oS ((H.set b4 frZ).set b18 (trR (yK (zT x%2^(-zH x).toNat) (2^(-zH x).toNat) i))) b19 (bdQ (zT x%2^(-zH x).toNat) (2^(-zH x).toNat) (yK (zT x%2^(-zH x).toNat) (2^(-zH x).toNat) i));iterate 5 refine AX ?_
  refine .p rfl (qU zr256 pl256 (.cons (tm rfl) (.inl rfl) (.cons (tm rfl) (.inl rfl) .nil)) rfl) ?_;refine AX ?_;refine .s rfl (ahD call188 (tm rfl) (evs2 rfl rfl) (awD (zT x%2^(-zH x).toNat) (2^(-zH x).toNat) (yK (zT x%2^(-zH x).toNat) (2^(-zH x).toNat) i) P (i+1) b18 b19 hne89 hO hO2 aA aA hst.1 hst.2 hB0 _ hb1 hb2)) ?_;rintro _ _ hH;obtain rfl:=hH;rw[bjU hne89];have hb1:=λy z=>(oN ((H.set b4 frZ).set b18 y) z hne89).trans (oS (H.set b4 frZ) b18 y);iterate 6 refine AX ?_
  refine .cl rfl call187 (evs2 rfl rfl) (subB (2^(-zH x).toNat) (acU (zT x%2^(-zH x).toNat) (2^(-zH x).toNat) P (i+1)) hUB hhi _) ?_;rw[ho2];iterate 6 refine AX ?_
  have hb1:=hb1 (trR (tryN (zT x%2^(-zH x).toNat) (2^(-zH x).toNat) (yK (zT x%2^(-zH x).toNat) (2^(-zH x).toNat) i) P (i+1))) (bdQ (zT x%2^(-zH x).toNat) (2^(-zH x).toNat) (tryN (zT x%2^(-zH x).toNat) (2^(-zH x).toNat) (yK (zT x%2^(-zH x).toNat) (2^(-zH x).toNat) i) P (i+1)));have hb2:=oS ((H.set b4 frZ).set b18 (trR (tryN (zT x%2^(-zH x).toNat) (2^(-zH x).toNat) (yK (zT x%2^(-zH x).toNat) (2^(-zH x).toNat) i) P (i+1)))) b19 (bdQ (zT x%2^(-zH x).toNat) (2^(-zH x).toNat) (tryN (zT x%2^(-zH x).toNat) (2^(-zH x).toNat) (yK (zT x%2^(-zH x).toNat) (2^(-zH x).toNat) i) P (i+1)));iterate 4 refine AX ?_
  refine .p rfl (.say (b:=.int .i64 ((P+1:Nat):Int)) (by congr 1) (yU (tm rfl) zJ aA)) ?_;refine AX ?_;refine .p rfl (qU zr256 pl256 (.cons (tm rfl) (.inl rfl) (.cons (tm rfl) (.inl rfl) .nil)) rfl) ?_;refine AX ?_;refine .s rfl (ahD call188 (tm rfl) (evs2 rfl rfl) (awD (zT x%2^(-zH x).toNat) (2^(-zH x).toNat) (tryN (zT x%2^(-zH x).toNat) (2^(-zH x).toNat) (yK (zT x%2^(-zH x).toNat) (2^(-zH x).toNat) i) P (i+1)) (P+1) (i+1) b18 b19 hne89 hO hO2 aA aA hst2.1 hst2.2 hB0 _ hb1 hb2)) ?_;rintro _ _ hH;obtain rfl:=hH;rw[bjU hne89];have hb1:=λy z=>(oN ((H.set b4 frZ).set b18 y) z hne89).trans (oS (H.set b4 frZ) b18 y);iterate 8 refine AX ?_
  refine Round.mk (J:=bkY x most b4 b18 b19 H) ⟨i+1,by omega,rfl,by rw[hP];rfl,rfl⟩ sX (hRa _) aA
 try simp only[aL]at hc94
 iterate 5 refine AX ?_
 refine AWP.meet (λenv H2=>env=[(4,.ptr (some ⟨b4,0,none⟩)),(6,.bool (ahQ x)),(9,qE ((zT x/2^(-zH x).toNat)+(aaF (zT x%2^(-zH x).toNat) (2^(-zH x).toNat) most).1)),(18,.ptr (some ⟨b18,0,none⟩))]∧H2=((H.set b4 (frZ)).set b18 (trR (aaF (zT x%2^(-zH x).toNat) (2^(-zH x).toNat) most).2)).set b19 (bdQ (zT x%2^(-zH x).toNat) (2^(-zH x).toNat) (yK (zT x%2^(-zH x).toNat) (2^(-zH x).toNat) most))) ?_ ?_
 ·refine AX ?_;have him:most=i:=by omega
  subst him;have hb1:=(oN ((H.set b4 frZ).set b18 (trR (yK (zT x%2^(-zH x).toNat) (2^(-zH x).toNat) most))) (bdQ (zT x%2^(-zH x).toNat) (2^(-zH x).toNat) (yK (zT x%2^(-zH x).toNat) (2^(-zH x).toNat) most)) hne89).trans (oS (H.set b4 frZ) b18 _);refine AX ?_;refine .e rfl (zZ isAgg256 Z256 (tm rfl) hb1 (lB rfl)) (.p rfl (qU zr256 pl256 (.cons zJ (.inl rfl) (.cons zJ (.inl rfl) .nil)) rfl) ?_);refine .p rfl (blF eqGuardType256 (tm rfl) (tm rfl) (eqI _ _ _ _)) ?_;iterate 2 refine AX ?_
  refine AWP.cond (tm rfl) (λhc151=>?_) (λhc151=>?_)
  ·try simp only[aL]at hc151
   have hF:yK (zT x%2^(-zH x).toNat) (2^(-zH x).toNat) most=(1,1):=Prod.ext (by show(yK (zT x%2^(-zH x).toNat) (2^(-zH x).toNat) most).1=1;omega) (by show(yK (zT x%2^(-zH x).toNat) (2^(-zH x).toNat) most).2=1;omega);have hN:=bdD hF;iterate 3 refine AX ?_
   refine .e rfl (yP U159 Z210 V210 rfl (yT 1) (.inl rfl) ⟨rfl,rfl⟩) (.cl rfl call107 (evs2 rfl rfl) (addOne (zT x/2^(-zH x).toNat) _ (adO (bI (Nat.succ_le_succ hWl) aA)) _) ?_);iterate 7 refine AX ?_
   refine .p rfl (qU zr256 pl256 (.cons zJ (.inl rfl) (.cons zJ (.inl rfl) .nil)) rfl) (.e0 (zM Z256 (tm rfl) (tm rfl) rfl rfl (.inr ⟨_,rfl⟩) hb1 (lB rfl)) ?_);rw[sU hne89];iterate 2 refine AX ?_
   refine Meets.mk (M:=λenv H2=>env=[(4,.ptr (some ⟨b4,0,none⟩)),(6,.bool (ahQ x)),(9,qE ((zT x/2^(-zH x).toNat)+(aaF (zT x%2^(-zH x).toNat) (2^(-zH x).toNat) most).1)),(18,.ptr (some ⟨b18,0,none⟩))]∧H2=((H.set b4 (frZ)).set b18 (trR (aaF (zT x%2^(-zH x).toNat) (2^(-zH x).toNat) most).2)).set b19 (bdQ (zT x%2^(-zH x).toNat) (2^(-zH x).toNat) (yK (zT x%2^(-zH x).toNat) (2^(-zH x).toNat) most))) ⟨rfl,by rw[hN];rfl⟩ (zF rfl (zF rfl (zU rfl (by rw[hN]) (zF rfl zW)))) (hRa _)
  try simp only[aL]at hc151
  have hN:=bdE (r:=(zT x%2^(-zH x).toNat)) (u:=(2^(-zH x).toNat)) (n:=most) (λq=>by rw[q]at hc151;simp at hc151);iterate 2 refine AX ?_
  refine Meets.mk (M:=λenv H2=>env=[(4,.ptr (some ⟨b4,0,none⟩)),(6,.bool (ahQ x)),(9,qE ((zT x/2^(-zH x).toNat)+(aaF (zT x%2^(-zH x).toNat) (2^(-zH x).toNat) most).1)),(18,.ptr (some ⟨b18,0,none⟩))]∧H2=((H.set b4 (frZ)).set b18 (trR (aaF (zT x%2^(-zH x).toNat) (2^(-zH x).toNat) most).2)).set b19 (bdQ (zT x%2^(-zH x).toNat) (2^(-zH x).toNat) (yK (zT x%2^(-zH x).toNat) (2^(-zH x).toNat) most))) ⟨rfl,by rw[hN]⟩ (zF rfl (zF rfl (zU rfl (by rw[hN];rfl) (zF rfl zW)))) (hRa _)
 rintro _ _ ⟨rfl,rfl⟩;have hlast:(zT x/2^(-zH x).toNat)+(aaF (zT x%2^(-zH x).toNat) (2^(-zH x).toNat) most).1<18014398509481984:=by unfold aaF;split<;>dsimp only<;>omega
 have hb4l:=(oN ((H.set b4 frZ).set b18 (trR (aaF (zT x%2^(-zH x).toNat) (2^(-zH x).toNat) most).2)) (bdQ (zT x%2^(-zH x).toNat) (2^(-zH x).toNat) (yK (zT x%2^(-zH x).toNat) (2^(-zH x).toNat) most)) hne49).trans ((oN (H.set b4 frZ) (trR (aaF (zT x%2^(-zH x).toNat) (2^(-zH x).toNat) most).2) hne48).trans (oS H b4 frZ));refine AX ?_;refine AWP.drawI (λH2=>H2.objs b18=some (trR (aaF (zT x%2^(-zH x).toNat) (2^(-zH x).toNat) most).2)) [(0,true),(1,true),(2,true),(3,true),(4,true),(5,true),(6,true),(7,true),(8,false),(9,true)] (by exact(oN _ _ hne89).trans (oS _ _ _)) rfl aE ?_;iterate 2 refine AX ?_
 refine APlanI.f rfl rfl (λ_ hI=>zD call92 (.cons (tm rfl) (.cons (tm rfl) (.cons zJ .nil))) (aoK (ahQ x) ((zT x/2^(-zH x).toNat)+(aaF (zT x%2^(-zH x).toNat) (2^(-zH x).toNat) most).1) 0 hlast aA _)) ?_;refine APlanI.p rfl rfl (zG U256 rfl Z3 (tm rfl)) ?_;refine APlanI.f rfl rfl (λ_ hI=>zP G3 (tm rfl) (hI) rfl) ?_;refine APlanI.p rfl rfl (zG U256 rfl Z3 (tm rfl)) ?_;refine APlanI.f rfl rfl (λ_ hI=>zP G3 (tm rfl) (hI) rfl) ?_;refine APlanI.p rfl rfl (qU zr174 pl174 (.cons (tm rfl) (.inr ⟨_,rfl⟩) (.cons (tm rfl) (.inl rfl) (.cons (tm rfl) (.inl rfl) .nil))) rfl) ?_;refine APlanI.s0 rfl (zM Z174 (tm rfl) (tm rfl) rfl rfl (.inr ⟨_,rfl⟩) hb4l (lB rfl)) ?_;rintro _ _ ⟨rfl,hH⟩;obtain rfl:=hH.symm;rw[bvA hne48 hne49];refine⟨by exact(oN _ _ hne89).trans (oS _ _ _),?_⟩;iterate 3 refine AX ?_
 refine AWP.dropb (hf19 _ _) ?_;refine AWP.dropb (hf18 _) ?_;refine AWP.frz (t:=4) rfl hb4 ?_;refine AX ?_;refine Ret.go (.cons (.cellI _ _ _ _ rfl isAgg174 Z174 rfl) (.cons (.tmp _ _ rfl) .nil)) _ (hRa _) ?_;refine⟨?_,rfl⟩;unfold afB;rw[aJ];rfl
end Go.Proofs.YteedncdcbgplfaaGreatDoor
