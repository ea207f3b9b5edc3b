import Derived.Test.YteedncdcbgplfaaGreatDoorK1
set_option maxHeartbeats 1000000
namespace Go.Proofs.YteedncdcbgplfaaGreatDoor
open Go.Proofs.Tryz
open Go Go.RowKit
set_option maxRecDepth 100000
variable{n r u:Nat}
theorem eqInI(d:Nat)(a b a2 b2:Int)(w:World):(Op.equalIn (d+2) 256 (.agg #[.int .i64 a,.int .i64 b]) (.agg #[.int .i64 a2,.int .i64 b2])).run prog w= .ok (decide (a=a2∧b=b2)) w:=by
 have u3:=U3;have a3:=G3;have z3:=Z3;have hS:prog.underlying 256=some (.struct (prog.fieldsOf 256)):=by kernel_rfl
 have hp:prog.stoodInHeld 256=false:=by kernel_rfl
 rw[run_equalIn_agg w (d+1) 256 _ _ hS hp];simp only[Program.fieldsOf,U256]
 go_simp
 by_cases h1:a=a2<;>by_cases h2:b=b2<;>simp[h1,h2]
theorem eqI(a b a2 b2:Int):atJ prog 256 [.int .i64 a,.int .i64 b] [.int .i64 a2,.int .i64 b2] (decide (a=a2∧b=b2)):=λg xs ys w h k=>by
 rw[h.plain [.int .i64 a,.int .i64 b] rfl,k.plain [.int .i64 a2,.int .i64 b2] rfl];exact eqInI 9998 a b a2 b2 w
def trR(st:Nat×Nat):AObj:=.box 256 [.int .i64 (st.1:Int),.int .i64 (st.2:Int)]
def bjH(r unit:Nat)(st:Nat×Nat):AObj:=.box 159 [qX (agR r unit st.1 st.2)]
theorem cjM{unit p q:Nat}{st:Nat×Nat}(h:¬((¬((p:Int)=st.1∧(q:Int)=st.2))∧agR r unit p q*st.2<agR r unit st.1 st.2*q)):tryN r unit st p q=st:=by
 by_cases e:(p:Int)=st.1∧(q:Int)=st.2
 ·exact bxV (Prod.ext aG aG)
 unfold tryN;rw[aM (λz=>h ⟨e,z⟩)]
theorem azX(r unit:Nat)(st:Nat×Nat)(p q:Nat)(b1 b2:Nat)(hne:b1≠b2)(hO:∀a b,a≤10000→b≤10000→agR r unit a b<BIG)(hO2:∀a b c,a≤10000→b≤10000→c≤10000→agR r unit a b*c<BIG)(hp:p≤10000)(hq:q≤10000)(hs1:st.1≤10000)(hs2:st.2≤10000)(hB0:100000<BIG)(H:Heap)(hb1:H.objs b1=some (trR st))(hb2:H.objs b2=some (bjH r unit st)):ACall prog 188 [.agg [.int .i64 (p:Int),.int .i64 (q:Int)],qX (agR r unit p q),.ptr (some ⟨b1,0,none⟩),.ptr (some ⟨b2,0,none⟩)] H (λ_ H'=>H'=(H.set b1 (trR (tryN r unit st p q))).set b2 (bjH r unit (tryN r unit st p q))):=by
 refine ACall.of_body func188 rfl ntmps188 results188 rfl ?_;iterate 6 refine AX ?_
 refine AWP.drawI (λH2=>H2.objs b1=some (trR st)∧H2.objs b2=some (bjH r unit st)) [(0,true),(1,true),(2,true),(3,true),(4,true),(5,true),(6,true),(7,true),(8,true),(9,true),(10,true),(11,true),(12,true),(13,true),(14,true)] (by exact⟨hb1,hb2⟩) rfl aE ?_;refine AX ?_;refine APlanI.f rfl rfl (λ_ hI=>qA isAgg256 Z256 (tm rfl) (hI.1) (lB rfl)) ?_;refine APlanI.p rfl rfl (bbJ eqGuardType256 (tm rfl) (tm rfl) (eqI _ _ _ _)) ?_;refine AX ?_;refine alP (t:=9) rfl (λhg9=>?_) (λhg9=>?_)
 ·refine AX ?_;refine APlanI.gp rfl rfl rfl rfl aB (zC U256 rfl Z3 (tm rfl)) ?_;refine APlanI.gf rfl rfl rfl rfl aB (λ_ hI=>zM G3 (tm rfl) (hI.1) rfl) ?_;refine APlanI.gf rfl rfl rfl rfl aB (λ_ hI=>zB call190 (evs2 rfl rfl) (aiW (agR r unit p q) st.2 (hO _ _ hp hq) aA aA (hO2 _ _ _ hp hq hs2) _)) ?_;refine APlanI.gf rfl rfl rfl rfl aB (λ_ hI=>zM isAgg159 (tm rfl) (hI.2) rfl) ?_;refine APlanI.gp rfl rfl rfl rfl aB (zA U256 rfl Z3 (tm rfl)) ?_;refine AX ?_;refine APlanI.gf rfl rfl rfl rfl aB (λ_ hI=>zB call190 (evs2 rfl rfl) (aiW (agR r unit st.1 st.2) q (hO _ _ hs1 hs2) aA aA (hO2 _ _ _ hs1 hs2 hq) _)) ?_;refine APlanI.gf rfl rfl rfl rfl aB (λ_ hI=>zB call189 (evs2 rfl rfl) (cmpB _ _ (hO2 _ _ _ hp hq hs2) (hO2 _ _ _ hs1 hs2 hq) _)) ?_;iterate 4 refine AX ?_
  refine AWP.cx rfl (λhc20=>?_) (λhc20=>?_)
  ·iterate 3 refine AX ?_
   refine .e0 (zL Z256 (tm rfl) (tm rfl) rfl rfl (.inr ⟨_,rfl⟩) (hb1) (lB rfl)) ?_;try first|rw[sS]|rw[sU aB]
   refine .e0 (zL Z159 (tm rfl) (tm rfl) rfl rfl (.inl rfl) ((oN _ _ hne.symm).trans hb2) (lB rfl)) ?_;try first|rw[sS]|rw[sU aB]
   refine AX ?_;refine Ret.go' .nil _ (hRa _) ?_;have e:tryN r unit st p q=(p,q):=by unfold tryN;rw[aN (bwM hc20)]
   rw[e];rfl
  refine AX ?_;refine Ret.go' .nil _ (hRa _) ?_;have hge:=ceW (a:=agR r unit p q*st.2) (b:=agR r unit st.1 st.2*q) aA;have e:tryN r unit st p q=st:=by unfold tryN;rw[aJ]
  rw[e,Heap.set_self hb1,Heap.set_self hb2]
 iterate 13 refine AX ?_
 refine AWP.cond_false (tm rfl) aD ?_;refine AX ?_;refine Ret.go' .nil _ (hRa _) ?_;have e:tryN r unit st p q=st:=cjM (λz=>z.1 (by simpa using hg9));rw[e,Heap.set_self hb1,Heap.set_self hb2]
theorem zr159:ZR 159 [.slice 1 [] .full]:=ZRi V159
theorem zr174:ZR 174 [.bool false,.str [],.int .i64 0,.int .i64 0,.int .i64 0]:=ZRi zeroValue174
theorem pl174:PL 174 [(0,3),(3,1),(4,1)]:=PLi U174
theorem zr256:ZR 256 [.int .i64 0,.int .i64 0]:=ZRi zeroValue256
theorem pl256:PL 256 [(0,1),(1,1)]:=PLi U256
def frC(r:(Bool×List UInt8×Int)×Nat×Nat):List AV:=[.bool r.1.1,.str r.1.2.1,.int .i64 r.1.2.2,.int .i64 (r.2.1:Int),.int .i64 (r.2.2:Int)]
def frZ:AObj:=.box 174 [.bool false,.str [],.int .i64 0,.int .i64 0,.int .i64 0]
theorem shrZ(a s:Nat)(q:Int)(hq:q=(s:Int))(h:a<BIG)(hs:s<1000000000):Fn 169 [qX a,.int .i64 q] (.tuple [qX (a/2^s),.bool (decide (a%2^s≠0)),.int .i64 0]):=by
 intro H;subst hq;exact shrB a s h hs H
theorem shlOne(s:Nat)(q:Int)(hq:q=(s:Int))(tl:Tail)(h:2^s<BIG)(hs:s<1000000000):Fn 168 [.slice 1 (U .u32 [1]) tl,.int .i64 q] (.tuple [qX (2^s),.int .i64 0]):=by
 intro H;subst hq;have:=atE [1] tl (Limbs.mk aC Limbs.nil) aF s (by rw[show val [1]=1 from rfl,cQ];exact h) hs H
 rwa[show val [1]=1 from rfl,cQ]at this
theorem addOne(a:Nat)(tl:Tail)(h:a+1<BIG):Fn 107 [qX a,.slice 1 (U .u32 [1]) tl] (.tuple [qX (a+1),.int .i64 0]):=by
 intro H;have:=bdJ (zF a) .shared (zH a) (akY aA) [1] tl (Limbs.mk aC Limbs.nil) aF H
 rwa[zN,show val [1]=1 from rfl,ceO,avF h]at this
theorem cgF{K:Heap}{b c d:Nat}(h1:b≠c)(h2:b≠d)(x y w x':AObj):(((K.set b x).set c y).set d w).set b x'=((K.set b x').set c y).set d w:=by
 rw[Heap.set_comm h2.symm w x',sU h1]
theorem brO{K:Heap}{c d:Nat}(h:c≠d)(y w y' w':AObj):(((K.set c y).set d w).set c y').set d w'=(K.set c y').set d w':=by
 rw[sU h,sS]
theorem bzX{s:Nat}(hs:s≤3300)(hr:r<2^s):(∀a b,a≤10000→b≤10000→agR r (2^s) a b<BIG)∧(∀a b c,a≤10000→b≤10000→c≤10000→agR r (2^s) a b*c<BIG)∧(∀b,b≤10000→r*b<BIG)∧2^s<BIG:=by
 have key:100000000*2^s<BIG:=bA (bD _ aC) (aqK hs);have hu:0<2^s:=bL aC;generalize 2^s=u at *;have h1:∀a b,a≤10000→b≤10000→agR r u a b≤10000*u:=λa b ha hb=>by
  have h2:=ckO r u a b;have h3:r*b≤u*10000:=eN (dK hr) hb;have h4:u*a≤u*10000:=bS _ ha;omega
 refine⟨λa b ha hb=>?_,λa b c ha hb hc=>?_,λb hb=>?_,by omega⟩
 ·have:=h1 a b ha hb;omega
 ·have h2:agR r u a b*c≤(10000*u)*10000:=eN (h1 a b ha hb) hc;omega
 have h3:r*b≤u*10000:=eN (dK hr) hb;omega
theorem cfK{p q:Nat}{st:Nat×Nat}(h:p≤n∧q≤n)(h2:st.1≤n∧st.2≤n):(tryN r u st p q).1≤n∧(tryN r u st p q).2≤n:=by unfold tryN;split;exact h;exact h2
theorem bzJ(h:qR r u n=(1,1)):abT r u n=(1,0,1):=by unfold abT;rw[aN h]
theorem bzK(h:¬qR r u n=(1,1)):abT r u n=(0,qR r u n):=by unfold abT;rw[aM h]
def bsM(x most b4 b18 b19:Nat)(H:Heap):Nat→Env→Heap→Prop:=λk env H1=>∃i:Nat,i≤most∧env=[(4,.ptr (some ⟨b4,0,none⟩)),(6,.bool (alN x)),(8,.int .i64 (zP x)),(9,qX (yA x/2^(-zP x).toNat)),(14,qX (yA x%2^(-zP x).toNat)),(16,qX (2^(-zP x).toNat)),(18,.ptr (some ⟨b18,0,none⟩)),(20,.func 188 [.ptr (some ⟨b18,0,none⟩),.ptr (some ⟨b19,0,none⟩)]),(92,.int .i64 (most:Int)),(93,.int .i64 (i:Int))]∧H1=((H.set b4 (frZ)).set b18 (trR (qR (yA x%2^(-zP x).toNat) (2^(-zP x).toNat) i))).set b19 (bjH (yA x%2^(-zP x).toNat) (2^(-zP x).toNat) (qR (yA x%2^(-zP x).toNat) (2^(-zP x).toNat) i))∧k=most-i
theorem bhL(x most:Nat)(hx:x<18446744073709551616)(hk:yK x<3)(hm:1≤most∧most≤9999)(H:Heap):ACall prog 104 [.int .u64 (x:Int),.int .i64 (most:Int)] H (λy H'=>y= .tuple [.agg (frC (akO x most)),.int .i64 0]∧H'=H):=by
 have hpm:=acN x;have hpe:=aaZ x;have hmB:=afO (m:=yA x) aA;have hB0:100000<BIG:=by unfold BIG;decide+kernel
 refine ACall.of_body func104 rfl ntmps104 results104 rfl ?_;iterate 2 refine AX ?_
 refine .al zr174 (λb4 hb4=>?_);iterate 8 refine AX ?_
 refine .cl rfl C31 (evs1 rfl) (acY x hx _) ?_;iterate 4 refine AX ?_
 refine AWP.cond (tm rfl) (λhc32=>?_) (λhc32=>?_)
 ·try simp only[aL]at hc32
  omega
 try simp only[aL]at hc32
 refine AWP.seqTo 37 (.bool (decide ((most:Int)<1∨9999<(most:Int)))) [0,1,4,5] ?_ ?_
 ·iterate 4 refine AX ?_
  refine zD (t:=40) rfl (λhg40=>?_) (λhg40=>?_)
  ·have hh40:=hg40;try simp only[aL]at hh40
   iterate 5 refine AX ?_
   exact⟨rfl,zS rfl (by(refine Eq.symm ?_;first|exact aQ.2 aA|exact aU aA|exact aS aA)) sX,rfl⟩
  have hh40:=hg40;try simp only[aL]at hh40
  iterate 5 refine AX ?_
  exact⟨rfl,zS rfl (by(refine Eq.symm ?_;first|exact aQ.2 aA|exact aU aA|exact aS aA)) sX,rfl⟩
 refine AWP.sub [(37,_),(0,_),(1,_),(4,_),(5,_)] sX ?_;refine AWP.cond (tm rfl) (λhc37=>?_) (λhc37=>?_)
 ·try simp only[aL]at hc37
  omega
 try simp only[aL]at hc37
 iterate 6 refine AX ?_
 refine .cl rfl C91 (evs1 rfl) (aiL x hx _) ?_;iterate 16 refine AX ?_
 refine AWP.cond (tm rfl) (λhc52=>?_) (λhc52=>?_)
 ·try simp only[aL]at hc52
  iterate 4 refine AX ?_
  refine .cl rfl C93 (evs1 rfl) (aeA (yA x) aA _) ?_;refine AX ?_;refine .cl rfl call92 (evs3 rfl rfl rfl) (apX (alN x) (yA x) (zP x) aA hpe _) (.p rfl (yU zr174 pl174 (.cons (tm rfl) (.inr ⟨_,rfl⟩) (.cons zJ (.inl rfl) (.cons zJ (.inl rfl) .nil))) rfl) (.e0 (zL Z174 (tm rfl) (tm rfl) rfl rfl (.inr ⟨_,rfl⟩) (oS _ _ _) (lB rfl)) ?_));try first|rw[sS]|rw[sU aB]
  iterate 3 refine AX ?_
  refine AWP.frz (t:=4) rfl hb4 ?_;iterate 2 refine AX ?_
  refine Ret.go (.cons (.cellI _ _ _ _ rfl isAgg174 Z174 rfl) (.cons (.tmp _ _ rfl) .nil)) _ (hRa _) ?_;refine⟨?_,rfl⟩;unfold akO;rw[aK];rfl
 try simp only[aL]at hc52
 have hse: -zP x=(((-zP x).toNat:Nat):Int):=by omega
 have hS:(-zP x).toNat≤1075:=by omega
 have hu0:0<(2^(-zP x).toNat):=bL aC;have hrl:(yA x%2^(-zP x).toNat)<(2^(-zP x).toNat):=bR _ hu0;obtain⟨hO,hO2,hRb,hUB⟩:=bzX (show(-zP x).toNat≤3300 by omega) hrl;have hWl:(yA x/2^(-zP x).toNat)≤yA x:=dP _ _;have hWu:(yA x/2^(-zP x).toNat)*(2^(-zP x).toNat)≤yA x:=eZ _ _;have hres:yA x-(yA x/2^(-zP x).toNat)*(2^(-zP x).toNat)=(yA x%2^(-zP x).toNat):=by have:=fV (yA x) (2^(-zP x).toNat);rw[bM]at this;omega
 iterate 5 refine AX ?_
 refine .cl rfl C93 (evs1 rfl) (aeA (yA x) aA _) ?_;iterate 2 refine AX ?_
 refine .cl rfl C169 (evs2 rfl rfl) (shrZ (yA x) (-zP x).toNat _ hse hmB aA _) ?_;iterate 14 refine AX ?_
 refine .cl rfl C168 (evs2 rfl rfl) (shlZ (yA x/2^(-zP x).toNat) (-zP x).toNat _ hse (bA hWu hmB) aA _) ?_;iterate 10 refine AX ?_
 refine .cl rfl C93 (evs1 rfl) (aeA (yA x) aA _) ?_;refine AX ?_;refine .cl rfl call187 (evs2 rfl rfl) (subB (yA x) ((yA x/2^(-zP x).toNat)*(2^(-zP x).toNat)) hmB hWu _) ?_;rw[hres];iterate 9 refine AX ?_
 refine .e rfl (yJ U159 Z210 V210 rfl (yB 1) (.inl rfl) ⟨rfl,rfl⟩) ?_;iterate 2 refine AX ?_
 refine .cl rfl C168 (evs2 rfl rfl) (shlOne (-zP x).toNat _ hse _ hUB aA _) ?_;iterate 9 refine AX ?_
 refine .p rfl (yU zr256 pl256 (.cons zJ (.inl rfl) (.cons zJ (.inl rfl) .nil)) rfl) ?_;refine AX ?_;refine .al zr256 (λb18 hb18=>?_);have hn4_18:=Heap.ne_of (oS _ _ _) hb18;refine .al zr159 (λb19 hb19=>?_);have hn4_19:=Heap.ne_of (oS _ _ _) hb19;have hn18_19:=Heap.ne_of (oS _ _ _) hb19;refine .e0 (zL Z256 (tm rfl) (tm rfl) rfl rfl (.inr ⟨_,rfl⟩) ((oN _ _ (Heap.fresh_ne hb19)).trans (oS _ _ _)) (lB rfl)) ?_;have hne89:=Heap.fresh_ne hb19;rw[sU hne89];refine .e0 (zL Z159 (tm rfl) (tm rfl) rfl rfl (.inl rfl) (oS _ _ _) (lB rfl)) ?_;try first|rw[sS]|rw[sU aB]
 iterate 4 refine AX ?_
 refine .p rfl (avL (tm rfl) (tm rfl)) ?_;iterate 5 refine AX ?_
 have hne48:=Heap.fresh_ne hb18;have hf18:=fS hb18;have hf19:∀y z,((H.set b4 y).set b18 z).objs b19=none:=λy z=>by
  have hne49:b19≠b4:=λe=>by
   subst e;rw[oN _ _ hne89.symm,oS]at hb19;cases hb19
  rw[oN _ _ hne89.symm,oN _ _ hne49]at hb19 ⊢;exact hb19
 have hne49:b4≠b19:=λe=>by
  subst e;rw[oN _ _ hne89.symm,oS]at hb19;cases hb19
 iterate 6 refine AX ?_
 refine AWP.loopW (bsM x most b4 b18 b19 H) (most) ⟨0,Nat.zero_le _,rfl,by unfold bjH;rw[show agR (yA x%2^(-zP x).toNat) (2^(-zP x).toNat) (qR (yA x%2^(-zP x).toNat) (2^(-zP x).toNat) 0).1 (qR (yA x%2^(-zP x).toNat) (2^(-zP x).toNat) 0).2=(yA x%2^(-zP x).toNat)from btJ _ _];rfl,rfl⟩ sX (hRa _) ?_;rintro _ _ _ ⟨i,hi,rfl,rfl,rfl⟩;iterate 6 refine AX ?_
 refine AWP.cond (tm rfl) (λhc94=>?_) (λhc94=>?_)
 ·try simp only[aL]at hc94
  obtain⟨P,hP⟩:∃P,P=(yA x%2^(-zP x).toNat)*(i+1)/(2^(-zP x).toNat):=⟨_,rfl⟩;have hPl:P≤9999:=by rw[hP];have:(yA x%2^(-zP x).toNat)*(i+1)/(2^(-zP x).toNat)≤i+1:=Nat.div_le_of_le_mul (bD _ (dK hrl));omega
  have ho1:(yA x%2^(-zP x).toNat)*(i+1)-P*(2^(-zP x).toNat)=agR (yA x%2^(-zP x).toNat) (2^(-zP x).toNat) P (i+1):=by rw[hP,btK]
  have ho2:(2^(-zP x).toNat)-agR (yA x%2^(-zP x).toNat) (2^(-zP x).toNat) P (i+1)=agR (yA x%2^(-zP x).toNat) (2^(-zP x).toNat) (P+1) (i+1):=by rw[hP,bzZ hu0,btK]
  have hlow:P*(2^(-zP x).toNat)≤(yA x%2^(-zP x).toNat)*(i+1):=by rw[hP];exact eZ _ _
  have hhi:agR (yA x%2^(-zP x).toNat) (2^(-zP x).toNat) P (i+1)≤(2^(-zP x).toNat):=by rw[←ho1];have:=Nat.lt_div_mul_add (a:=(yA x%2^(-zP x).toNat)*(i+1)) hu0;rw[←hP]at this;omega
  have hst:(qR (yA x%2^(-zP x).toNat) (2^(-zP x).toNat) i).1≤10000∧(qR (yA x%2^(-zP x).toNat) (2^(-zP x).toNat) i).2≤10000:=by have h1:=avJ (yA x%2^(-zP x).toNat) (2^(-zP x).toNat) i;have h2:=avI hrl i;omega
  have hst2:=cfK (r:=(yA x%2^(-zP x).toNat)) (u:=(2^(-zP x).toNat)) (p:=P) (q:=i+1) (n:=10000) aA hst;have hrb1:=hRb (i+1) aA;iterate 13 refine AX ?_
  refine .p rfl (.say (b:=.int .i64 ((i+1:Nat):Int)) (by congr 1) (yZ (tm rfl) zJ aA)) ?_;iterate 7 refine AX ?_
  refine .cl rfl call190 (evs2 rfl rfl) (aiW (yA x%2^(-zP x).toNat) (i+1) aA aA aA hrb1 _) ?_;iterate 8 refine AX ?_
  refine .cl rfl C169 (evs2 rfl rfl) (shrZ ((yA x%2^(-zP x).toNat)*(i+1)) (-zP x).toNat _ hse hrb1 aA _) ?_;rw[←hP];iterate 12 refine AX ?_
  refine .cl rfl call191 (evs1 rfl) (valueB P aA _) ?_;iterate 12 refine AX ?_
  refine .cl rfl C168 (evs2 rfl rfl) (shlZ P (-zP x).toNat _ hse (bA hlow hrb1) aA _) ?_;iterate 11 refine AX ?_
  refine .cl rfl call187 (evs2 rfl rfl) (subB ((yA x%2^(-zP x).toNat)*(i+1)) (P*(2^(-zP x).toNat)) hrb1 hlow _) ?_;rw[ho1];iterate 8 refine AX ?_
  have hb1:=(oN ((H.set b4 frZ).set b18 (trR (qR (yA x%2^(-zP x).toNat) (2^(-zP x).toNat) i))) (bjH (yA x%2^(-zP x).toNat) (2^(-zP x).toNat) (qR (yA x%2^(-zP x).toNat) (2^(-zP x).toNat) i)) hne89).trans (oS (H.set b4 frZ) b18 _);have hb2:=oS ((H.set b4 frZ).set b18 (trR (qR (yA x%2^(-zP x).toNat) (2^(-zP x).toNat) i))) b19 (bjH (yA x%2^(-zP x).toNat) (2^(-zP x).toNat) (qR (yA x%2^(-zP x).toNat) (2^(-zP x).toNat) i));iterate 5 refine AX ?_
  refine .p rfl (yU zr256 pl256 (.cons (tm rfl) (.inl rfl) (.cons (tm rfl) (.inl rfl) .nil)) rfl) ?_;refine AX ?_;refine .s rfl (ahA call188 (tm rfl) (evs2 rfl rfl) (azX (yA x%2^(-zP x).toNat) (2^(-zP x).toNat) (qR (yA x%2^(-zP x).toNat) (2^(-zP x).toNat) i) P (i+1) b18 b19 hne89 hO hO2 aA aA hst.1 hst.2 hB0 _ hb1 hb2)) ?_;rintro _ _ hH;obtain rfl:=hH;rw[brO hne89];have hb1:=λy z=>(oN ((H.set b4 frZ).set b18 y) z hne89).trans (oS (H.set b4 frZ) b18 y);iterate 6 refine AX ?_
  refine .cl rfl call187 (evs2 rfl rfl) (subB (2^(-zP x).toNat) (agR (yA x%2^(-zP x).toNat) (2^(-zP x).toNat) P (i+1)) hUB hhi _) ?_;rw[ho2];iterate 6 refine AX ?_
  have hb1:=hb1 (trR (tryN (yA x%2^(-zP x).toNat) (2^(-zP x).toNat) (qR (yA x%2^(-zP x).toNat) (2^(-zP x).toNat) i) P (i+1))) (bjH (yA x%2^(-zP x).toNat) (2^(-zP x).toNat) (tryN (yA x%2^(-zP x).toNat) (2^(-zP x).toNat) (qR (yA x%2^(-zP x).toNat) (2^(-zP x).toNat) i) P (i+1)));have hb2:=oS ((H.set b4 frZ).set b18 (trR (tryN (yA x%2^(-zP x).toNat) (2^(-zP x).toNat) (qR (yA x%2^(-zP x).toNat) (2^(-zP x).toNat) i) P (i+1)))) b19 (bjH (yA x%2^(-zP x).toNat) (2^(-zP x).toNat) (tryN (yA x%2^(-zP x).toNat) (2^(-zP x).toNat) (qR (yA x%2^(-zP x).toNat) (2^(-zP x).toNat) i) P (i+1)));iterate 4 refine AX ?_
  refine .p rfl (.say (b:=.int .i64 ((P+1:Nat):Int)) (by congr 1) (yZ (tm rfl) zJ aA)) ?_;refine AX ?_;refine .p rfl (yU zr256 pl256 (.cons (tm rfl) (.inl rfl) (.cons (tm rfl) (.inl rfl) .nil)) rfl) ?_;refine AX ?_;refine .s rfl (ahA call188 (tm rfl) (evs2 rfl rfl) (azX (yA x%2^(-zP x).toNat) (2^(-zP x).toNat) (tryN (yA x%2^(-zP x).toNat) (2^(-zP x).toNat) (qR (yA x%2^(-zP x).toNat) (2^(-zP x).toNat) i) P (i+1)) (P+1) (i+1) b18 b19 hne89 hO hO2 aA aA hst2.1 hst2.2 hB0 _ hb1 hb2)) ?_;rintro _ _ hH;obtain rfl:=hH;rw[brO hne89];have hb1:=λy z=>(oN ((H.set b4 frZ).set b18 y) z hne89).trans (oS (H.set b4 frZ) b18 y);iterate 8 refine AX ?_
  refine Round.mk (J:=bsM x most b4 b18 b19 H) ⟨i+1,by omega,rfl,by rw[hP];rfl,rfl⟩ sX (hRa _) aA
 try simp only[aL]at hc94
 iterate 5 refine AX ?_
 refine AWP.meet (λenv H2=>env=[(4,.ptr (some ⟨b4,0,none⟩)),(6,.bool (alN x)),(9,qX ((yA x/2^(-zP x).toNat)+(abT (yA x%2^(-zP x).toNat) (2^(-zP x).toNat) most).1)),(18,.ptr (some ⟨b18,0,none⟩))]∧H2=((H.set b4 (frZ)).set b18 (trR (abT (yA x%2^(-zP x).toNat) (2^(-zP x).toNat) most).2)).set b19 (bjH (yA x%2^(-zP x).toNat) (2^(-zP x).toNat) (qR (yA x%2^(-zP x).toNat) (2^(-zP x).toNat) most))) ?_ ?_
 ·refine AX ?_;have him:most=i:=by omega
  subst him;have hb1:=(oN ((H.set b4 frZ).set b18 (trR (qR (yA x%2^(-zP x).toNat) (2^(-zP x).toNat) most))) (bjH (yA x%2^(-zP x).toNat) (2^(-zP x).toNat) (qR (yA x%2^(-zP x).toNat) (2^(-zP x).toNat) most)) hne89).trans (oS (H.set b4 frZ) b18 _);refine AX ?_;refine .e rfl (qA isAgg256 Z256 (tm rfl) hb1 (lB rfl)) (.p rfl (yU zr256 pl256 (.cons zJ (.inl rfl) (.cons zJ (.inl rfl) .nil)) rfl) ?_);refine .p rfl (amL eqGuardType256 (tm rfl) (tm rfl) (eqI _ _ _ _)) ?_;iterate 2 refine AX ?_
  refine AWP.cond (tm rfl) (λhc151=>?_) (λhc151=>?_)
  ·try simp only[aL]at hc151
   have hF:qR (yA x%2^(-zP x).toNat) (2^(-zP x).toNat) most=(1,1):=Prod.ext (by show(qR (yA x%2^(-zP x).toNat) (2^(-zP x).toNat) most).1=1;omega) (by show(qR (yA x%2^(-zP x).toNat) (2^(-zP x).toNat) most).2=1;omega);have hN:=bzJ hF;iterate 3 refine AX ?_
   refine .e rfl (yJ U159 Z210 V210 rfl (yB 1) (.inl rfl) ⟨rfl,rfl⟩) (.cl rfl call107 (evs2 rfl rfl) (addOne (yA x/2^(-zP x).toNat) _ (afO (bA (Nat.succ_le_succ hWl) aA)) _) ?_);iterate 7 refine AX ?_
   refine .p rfl (yU zr256 pl256 (.cons zJ (.inl rfl) (.cons zJ (.inl rfl) .nil)) rfl) (.e0 (zL Z256 (tm rfl) (tm rfl) rfl rfl (.inr ⟨_,rfl⟩) hb1 (lB rfl)) ?_);rw[sU hne89];iterate 2 refine AX ?_
   refine Meets.mk (M:=λenv H2=>env=[(4,.ptr (some ⟨b4,0,none⟩)),(6,.bool (alN x)),(9,qX ((yA x/2^(-zP x).toNat)+(abT (yA x%2^(-zP x).toNat) (2^(-zP x).toNat) most).1)),(18,.ptr (some ⟨b18,0,none⟩))]∧H2=((H.set b4 (frZ)).set b18 (trR (abT (yA x%2^(-zP x).toNat) (2^(-zP x).toNat) most).2)).set b19 (bjH (yA x%2^(-zP x).toNat) (2^(-zP x).toNat) (qR (yA x%2^(-zP x).toNat) (2^(-zP x).toNat) most))) ⟨rfl,by rw[hN];rfl⟩ (zK rfl (zK rfl (zR rfl (by rw[hN]) (zK rfl yF)))) (hRa _)
  try simp only[aL]at hc151
  have hN:=bzK (r:=(yA x%2^(-zP x).toNat)) (u:=(2^(-zP x).toNat)) (n:=most) (λq=>by rw[q]at hc151;simp at hc151);iterate 2 refine AX ?_
  refine Meets.mk (M:=λenv H2=>env=[(4,.ptr (some ⟨b4,0,none⟩)),(6,.bool (alN x)),(9,qX ((yA x/2^(-zP x).toNat)+(abT (yA x%2^(-zP x).toNat) (2^(-zP x).toNat) most).1)),(18,.ptr (some ⟨b18,0,none⟩))]∧H2=((H.set b4 (frZ)).set b18 (trR (abT (yA x%2^(-zP x).toNat) (2^(-zP x).toNat) most).2)).set b19 (bjH (yA x%2^(-zP x).toNat) (2^(-zP x).toNat) (qR (yA x%2^(-zP x).toNat) (2^(-zP x).toNat) most))) ⟨rfl,by rw[hN]⟩ (zK rfl (zK rfl (zR rfl (by rw[hN];rfl) (zK rfl yF)))) (hRa _)
 rintro _ _ ⟨rfl,rfl⟩;have hlast:(yA x/2^(-zP x).toNat)+(abT (yA x%2^(-zP x).toNat) (2^(-zP x).toNat) most).1<18014398509481984:=by unfold abT;split<;>dsimp only<;>omega
 have hb4l:=(oN ((H.set b4 frZ).set b18 (trR (abT (yA x%2^(-zP x).toNat) (2^(-zP x).toNat) most).2)) (bjH (yA x%2^(-zP x).toNat) (2^(-zP x).toNat) (qR (yA x%2^(-zP x).toNat) (2^(-zP x).toNat) most)) hne49).trans ((oN (H.set b4 frZ) (trR (abT (yA x%2^(-zP x).toNat) (2^(-zP x).toNat) most).2) hne48).trans (oS H b4 frZ));refine AX ?_;refine AWP.drawI (λH2=>H2.objs b18=some (trR (abT (yA x%2^(-zP x).toNat) (2^(-zP x).toNat) most).2)) [(0,true),(1,true),(2,true),(3,true),(4,true),(5,true),(6,true),(7,true),(8,false),(9,true)] (by exact(oN _ _ hne89).trans (oS _ _ _)) rfl aE ?_;iterate 2 refine AX ?_
 refine APlanI.f rfl rfl (λ_ hI=>zB call92 (.cons (tm rfl) (.cons (tm rfl) (.cons zJ .nil))) (apX (alN x) ((yA x/2^(-zP x).toNat)+(abT (yA x%2^(-zP x).toNat) (2^(-zP x).toNat) most).1) 0 hlast aA _)) ?_;refine APlanI.p rfl rfl (zC U256 rfl Z3 (tm rfl)) ?_;refine APlanI.f rfl rfl (λ_ hI=>zM G3 (tm rfl) (hI) rfl) ?_;refine APlanI.p rfl rfl (zC U256 rfl Z3 (tm rfl)) ?_;refine APlanI.f rfl rfl (λ_ hI=>zM G3 (tm rfl) (hI) rfl) ?_;refine APlanI.p rfl rfl (yU zr174 pl174 (.cons (tm rfl) (.inr ⟨_,rfl⟩) (.cons (tm rfl) (.inl rfl) (.cons (tm rfl) (.inl rfl) .nil))) rfl) ?_;refine APlanI.s0 rfl (zL Z174 (tm rfl) (tm rfl) rfl rfl (.inr ⟨_,rfl⟩) hb4l (lB rfl)) ?_;rintro _ _ ⟨rfl,hH⟩;obtain rfl:=hH.symm;rw[cgF hne48 hne49];refine⟨by exact(oN _ _ hne89).trans (oS _ _ _),?_⟩;iterate 3 refine AX ?_
 refine AWP.dropb (hf19 _ _) ?_;refine AWP.dropb (hf18 _) ?_;refine AWP.frz (t:=4) rfl hb4 ?_;refine AX ?_;refine Ret.go (.cons (.cellI _ _ _ _ rfl isAgg174 Z174 rfl) (.cons (.tmp _ _ rfl) .nil)) _ (hRa _) ?_;refine⟨?_,rfl⟩;unfold akO;rw[aJ];rfl
end Go.Proofs.YteedncdcbgplfaaGreatDoor
