import Derived.Test.YteedncdcbgplfaaGreatDoorK2
set_option maxHeartbeats 1000000
namespace Go.Proofs.YteedncdcbgplfaaGreatDoor
open Go.Proofs.Tryz
open Go Go.RowKit
variable{a i n r:Nat}{zs:List Nat}
section
set_option maxRecDepth 100000
def ShrOK(a n:Nat)(zs:List Nat)(i:Nat):Prop:=val zs=a%2^i/2^n
theorem ShrOK.none(h:ShrOK a n zs i)(h0:a/2^i%2≠1∨i<n):ShrOK a n zs (i+1):=by
 unfold ShrOK at *;rw[h,Nat.mod_pow_succ];rcases h0 with h0|h0
 ·rw[show a/2^i%2=0 by omega,dO,cM]
 have h1:2^i*2≤2^n:=by rw[←bW];exact bS aC h0
 have h2:=bX a (cJ (n:=i) (by decide:0<2));have h3:2^i*(a/2^i%2)≤2^i*1:=dV _ aA;rw[cY aA,cY aA]
theorem ShrOK.lt(h:ShrOK a n zs i)(hn:n≤i):val zs<2^(i-n):=by
 unfold ShrOK at h;rw[h];refine Nat.div_lt_of_lt_mul ?_;rw[←dN,show n+(i-n)=i by omega];exact bX _ (cJ aC)
theorem bmY{q:Nat}(hz:Limbs zs)(h:val zs<2^q):zs.getD (q/32) 0<2^(q%32):=by
 rw[bmO zs _ hz,show(4294967296:Nat)=2^32 by decide,←eX];refine bI (Nat.mod_le _ _) (Nat.div_lt_of_lt_mul ?_);rw[←dN,dJ];exact h
theorem ShrOK.low(h:ShrOK a n zs i)(hz:Limbs zs)(hn:n≤i):zs.getD ((i-n)/32) 0|||2^((i-n)%32)=zs.getD ((i-n)/32) 0+2^((i-n)%32)∧zs.getD ((i-n)/32) 0+2^((i-n)%32)<4294967296:=by
 have h1:=bmY hz (h.lt hn);generalize zs.getD ((i-n)/32) 0=gl at *;have h32:=bX (i-n) (by decide:0<32);generalize(i-n)%32=s at *;have e:(4294967296:Nat)=2^32:=by decide
 have h2:2^s*2≤2^32:=by rw[←bW];exact bS aC h32
 refine⟨?_,by omega⟩;have h3:=Nat.two_pow_add_eq_or_of_lt h1 1;rw[eR]at h3;rw[Nat.or_comm,←h3,Nat.add_comm]
theorem ShrOK.take(h:ShrOK a n zs i)(hn:n≤i)(hb:a/2^i%2=1)(hl:(i-n)/32<zs.length):ShrOK a n (zs.set ((i-n)/32) (zs.getD ((i-n)/32) 0+2^((i-n)%32))) (i+1):=by
 have e:=atN (zs:=zs) (i:=(i-n)/32) (v:=zs.getD ((i-n)/32) 0+2^((i-n)%32)) hl;have e2:(4294967296:Nat)^((i-n)/32)*2^((i-n)%32)=2^(i-n):=by
  rw[show(4294967296:Nat)=2^32 by decide,←eX,←dN,dJ]
 rw[cB,e2]at e;have h':val zs=a%2^i/2^n:=h;have h4:a%2^(i+1)/2^n=val zs+2^(i-n):=by
  rw[Nat.mod_pow_succ,hb,eR,h',show(2:Nat)^i=2^n*2^(i-n) by rw[←dN,show n+(i-n)=i by omega],fB _ _ (cJ aC)]
 unfold ShrOK;rw[h4];omega
theorem ShrOK.done(h:ShrOK a n zs i)(hi:a<2^i):val zs=a/2^n:=by
 unfold ShrOK at h;rw[h,bN hi]
theorem ShrOK.begin(a n k:Nat):ShrOK a n (List.replicate k 0) 0:=by unfold ShrOK;rw[aiW,Nat.pow_zero,Nat.mod_one,Nat.zero_div]
theorem apM{P:Program}{dst:Option Tmp}{ty:TypeId}{pos:String}{af:Array Go.Edge}{gd:Option (Nat×Bool)}{env:Env}{T T':TypeId}{x y:Operand}{m q:Nat}(hx:Ev env x (.int .i64 (m:Int)))(hy:Ev env y (.int .i64 (q:Int)))(h:q≤m)(h2:m≤9223372036854775807):
  APure P ⟨dst,.binOp .sub T x y T',ty,pos,af,gd⟩ env (.int .i64 ((m-q:Nat):Int)):=by
 have:=qY (P:=P) (dst:=dst) (T:=T) (T':=T') (ty:=ty) (pos:=pos) (af:=af) (gd:=gd) hx hy aA
 rwa[show(m:Int)-q=((m-q:Nat):Int) by omega]at this
theorem bfW(a:Nat)(ha:a<BIG):Fn 256 [qE a] (.bool false):=by
 intro H;have hl:=yM ha;refine .of_body func256 rfl ntmps256 results256 rfl ?_;iterate 8 refine AX ?_
 refine .cl rfl C158 (evs1 rfl) (qX (zK a) .shared (zL a) aA _) ?_;rw[zR];iterate 7 refine AX ?_
 exact⟨congrArg AV.bool (aP aA),rfl⟩
def bsV(a n b:Nat)(H:Heap):Nat→Env→Heap→Prop:=λk env H1=>∃(i:Nat)(zs:List Nat)(lost:Bool),i≤32*(zK a).length∧zs.length=(zK a).length∧Limbs zs∧ShrOK a n zs i∧env=[(1,.int .i64 (n:Int)),(7,qE a),(8,.mslice (some ⟨b,0,none⟩) (zK a).length (zK a).length),(9,.bool lost),(10,.int .i64 (i:Int))]∧H1=H.set b (.box 210 (U .u32 zs))∧k=32*(zK a).length-i
theorem bfV(a n:Nat)(ha:a<BIG)(hn:n≤100000)(H:Heap):ACall prog 208 [qE a,.int .i64 (n:Int)] H (λy H'=>(∃lost,y= .tuple [qE (a/2^n),.bool lost,.int .i64 0])∧H'=H):=by
 have hl:=yM ha;have hLm:=zL a;refine .of_body func208 rfl ntmps208 results208 rfl ?_;iterate 14 refine AM ?_
 refine .cx rfl (λhc13=>?_) (λhc13=>?_)
 ·omega
 iterate 6 refine AX ?_
 refine .cl rfl call256 (evs1 rfl) (bfW a ha _) ?_;iterate 2 refine AX ?_
 refine .cond_false (tm rfl) aD ?_;iterate 5 refine AX ?_
 refine .cl rfl C158 (evs1 rfl) (qX (zK a) .shared hLm aA _) ?_;rw[zR];iterate 7 refine AX ?_
 refine .s rfl (qJ ((zK a).length) U135 typeInfo210 Z210 V210 (tm rfl) (tm rfl) aA aA aC aA) ?_;rintro _ _ ⟨b20,rfl,hb20,hH⟩;obtain rfl:=hH.symm;iterate 15 refine AM ?_
 refine .loopW (bsV a n b20 H) (32*(zK a).length) ⟨0,List.replicate _ 0,false,Nat.zero_le _,by simp,Limbs.rep aA,.begin _ _ _,rfl,rfl,rfl⟩ sX (hRa _) ?_;rintro _ _ _ ⟨i,zs,lost,hi,hzl,hz,hp,rfl,rfl,hk⟩;iterate 10 refine AM ?_
 refine .cx rfl (λhc25=>?_) (λhc25=>?_)
 ·iterate 2 refine AX ?_
  refine .meet (λenv H2=>∃(zs2:List Nat)(lost2:Bool),zs2.length=(zK a).length∧Limbs zs2∧ShrOK a n zs2 (i+1)∧env=[(1,.int .i64 (n:Int)),(7,qE a),(8,.mslice (some ⟨b20,0,none⟩) (zK a).length (zK a).length),(9,.bool lost2),(10,.int .i64 (i:Int))]∧H2=H.set b20 (.box 210 (U .u32 zs2))) ?_ ?_
  ·iterate 5 refine AX ?_
   refine .cl rfl call156 (evs2 rfl rfl) (alV (zK a) .shared hLm aA i aA _ rfl _) ?_;rw[zR];obtain⟨d,hd⟩:∃d:Bool,d=decide (((a/2^i%2:Nat):Int)=1):=⟨_,rfl⟩;rw[←hd];iterate 3 refine AX ?_
   refine .meet (λenv H2=>∃(lost:Bool),env=[(1,.int .i64 (n:Int)),(7,qE a),(8,.mslice (some ⟨b20,0,none⟩) (zK a).length (zK a).length),(9,.bool lost),(10,.int .i64 (i:Int)),(11,.bool d)]∧H2=H.set b20 (.box 210 (U .u32 zs))) ?_ ?_
   ·refine .seqTo 36 (.bool (d&&decide ((i:Int)<(n:Int)))) [1,7,8,9,10,11] ?_ ?_
    ·iterate 3 refine AX ?_
     refine zC (t:=32) rfl (λhg32=>?_) (λhg32=>?_)
     ·iterate 5 refine AX ?_
      exact⟨rfl,zO rfl (by(simp_all;done)) sX,rfl⟩
     iterate 5 refine AX ?_
     exact⟨rfl,zO rfl (by(simp_all;done)) sX,rfl⟩
    refine .sub [(36,_),(1,_),(7,_),(8,_),(9,_),(10,_),(11,_)] sX ?_;refine .cx rfl (λhc36=>?_) (λhc36=>?_)
    ·iterate 4 refine AX ?_
     refine .mk ⟨_,rfl,rfl⟩ sX (hRa _)
    iterate 2 refine AX ?_
    refine .mk ⟨_,rfl,rfl⟩ sX (hRa _)
   rintro _ _ ⟨lost2,rfl,rfl⟩;refine .seqTo 42 (.bool (d&&decide ((n:Int)≤(i:Int)))) [1,7,8,9,10] ?_ ?_
   ·iterate 3 refine AX ?_
    refine zC (t:=38) rfl (λhg38=>?_) (λhg38=>?_)
    ·iterate 5 refine AX ?_
     exact⟨rfl,zO rfl (by(simp_all;done)) sX,rfl⟩
    iterate 5 refine AX ?_
    exact⟨rfl,zO rfl (by(simp_all;done)) sX,rfl⟩
   refine .sub [(42,_),(1,_),(7,_),(8,_),(9,_),(10,_)] sX ?_;refine .cx rfl (λhc42=>?_) (λhc42=>?_)
   ·have hq:d=true∧n≤i:=by rw[bD,aW]at hc42;exact⟨hc42.1,by have:=hc42.2;omega⟩
    have hbit:a/2^i%2=1:=by have:=of_decide_eq_true (hd.symm.trans hq.1);omega
    have hni:=hq.2;have hlow:=hp.low hz hni;have hgz:=hz.getD ((i-n)/32);have hs1:=atT (bX (i-n) (by decide:0<32));iterate 4 refine AX ?_
    refine .p rfl (apM (tm rfl) (tm rfl) aA aA) ?_;iterate 4 refine AM ?_
    refine .p rfl (apM (tm rfl) (tm rfl) aA aA) ?_;refine AM ?_;refine .p rfl (yR ((i-n)/32) U135 Z210 (tm rfl) (tm rfl) aA aA) (.e rfl (aaP G210 (tm rfl) (oS _ _ _) aA) ?_);iterate 2 refine AX ?_
    refine .p rfl (apM (tm rfl) (tm rfl) aA aA) ?_;iterate 2 refine AM ?_
    refine .p rfl (ajD (yT 1) (tm rfl) aA (by exact atT (bX _ aC))) (.p rfl (apQ (tm rfl) (tm rfl) aB aB) (.p rfl (yR ((i-n)/32) U135 Z210 (tm rfl) (tm rfl) aA aA) (.e0 (qS Z210 (tm rfl) (tm rfl) (oS _ _ _) aA) ?_)));try first|rw[sS]|rw[sU aB]
    iterate 3 refine AX ?_
    refine .mk ⟨zs.set ((i-n)/32) (zs.getD ((i-n)/32) 0|||(1*2^((i-n)%32))),_,by simpa using hzl,by rw[cS,hlow.1];exact Limbs.set hz hlow.2,by rw[cS,hlow.1];exact hp.take hni hbit aA,rfl,rfl⟩ sX (hRa _)
   have hno:a/2^i%2≠1∨i<n:=by
    rw[cA]at hc42;rcases hc42 with h|h
    ·exact .inl (by have:=of_decide_eq_false (hd.symm.trans h);omega)
    exact .inr (by have:=of_decide_eq_false h;omega)
   iterate 3 refine AX ?_
   refine .mk ⟨_,_,hzl,hz,hp.none hno,rfl,rfl⟩ sX (hRa _)
  rintro _ _ ⟨zs2,lost2,hzl2,hz2,hp2,rfl,rfl⟩;iterate 6 refine AM ?_
  refine Round.mk ⟨i+1,zs2,lost2,by omega,hzl2,hz2,hp2,rfl,rfl,rfl⟩ sX (hRa _) aA
 iterate 6 refine AX ?_
 have hie:i=32*(zK a).length:=by omega
 have hv:=hp.done (by rw[hie];have:=arM hLm;rwa[zR]at this);refine .frzU (t:=8) rfl hb20 aA (bB _) (by simp only[zN];omega) ?_;rw[aZ aA];iterate 2 refine AX ?_
 refine .cl rfl C158 (evs1 rfl) (qX zs .shared hz aA _) ?_;iterate 8 refine AM ?_
 rw[hv];exact⟨⟨_,rfl⟩,rfl⟩
end
theorem bqI(r unit q:Nat):acU r unit q q=acU r unit 1 1*q:=by
 unfold acU;rw[eR,eR];by_cases h:r<unit
 ·rcases bE q with h0|h0
  ·subst h0;simp
  rw[aN h,aN (Nat.mul_lt_mul_of_pos_right h h0),Nat.sub_mul]
 have h2:¬r*q<unit*q:=by have:=bG q (Nat.le_of_not_lt h);omega
 rw[aM h,aM h2,Nat.sub_mul]
def OneOK(r unit:Nat)(st:Nat×Nat):Prop:=0<st.2∧acU r unit st.1 st.2≤acU r unit 1 1*st.2∧(st.1=st.2→st=(1,1))
theorem OneOK.tryN{r unit p q:Nat}{st:Nat×Nat}(h:OneOK r unit st)(hq:0<q):OneOK r unit (tryN r unit st p q):=by
 unfold Go.Proofs.YteedncdcbgplfaaGreatDoor.tryN;split
 ·rename_i ht
  obtain⟨h0,h1,h2⟩:=h;refine⟨hq,?_,?_⟩
  ·show acU r unit p q≤acU r unit 1 1*q;have h3:acU r unit st.1 st.2*q≤acU r unit 1 1*st.2*q:=bG _ h1;have h4:acU r unit p q*st.2<acU r unit 1 1*q*st.2:=by
    rw[show acU r unit 1 1*q*st.2=acU r unit 1 1*st.2*q by rw[bT,bO q,←bT]];omega
   exact eS (Nat.lt_of_mul_lt_mul_right h4)
  intro(e:p=q);subst e;rw[bqI,bT,bO p,←bT]at ht;have h5:=Nat.lt_of_mul_lt_mul_right ht;omega
 exact h
theorem bfT{unit:Nat}(hr:r<unit)(n:Nat):(yK r unit n).1=(yK r unit n).2→yK r unit n=(1,1):=by
 have key:∀n,OneOK r unit (yK r unit (n+1)):=by
  intro n;induction n with
  |zero=>
   have e0:yK r unit 1=tryN r unit (0,1) 1 1:=by
    show asD r unit (0,1) 1=_;unfold asD;rw[eR,cY hr,bcE rfl]
   rw[e0];unfold tryN;split
   ·exact⟨Nat.one_pos,by show _≤_*1;rw[eR];exact bB _,λ_=>rfl⟩
   rename_i h
   refine⟨Nat.one_pos,?_,λe=>absurd e aC⟩;show acU r unit 0 1≤_*1;rw[show((0,1):Nat×Nat).2=1 from rfl,show((0,1):Nat×Nat).1=0 from rfl]at h;omega
  |succ n ih=>rw[yK];unfold asD;exact(ih.tryN aA).tryN aA
 cases n with
 |zero=>intro h;cases h
 |succ n=>exact(key n).2.2
section
open Go Go.RowKit
set_option maxRecDepth 100000
theorem bgQ:(zK n).length≤2↔n<18446744073709551616:=by
 rw[qT,show(4294967296:Nat)^2=18446744073709551616 by decide]
theorem brD {xs : List Nat} (hx : Limbs xs) (hl : xs.length ≤ 2) (h0 : 0 < i) (hi : i ≤ xs.length) : val (xs.drop i) < 4294967296 ∧ val (xs.drop (i - 1)) = val (xs.drop i) * 2 ^ 32 + xs.getD (i - 1) 0 := by
 match xs, hl with
 | [], _ => simp at hi; omega
 | [x], _ => have : i = 1 := by simp at hi; omega
             subst this; simp [val]
 | [x, y], _ =>
  have hy := hx.getD 1
  simp only [cL, eJ] at hy
  have : i = 1 ∨ i = 2 := by simp at hi; omega
  rcases this with rfl | rfl
  ·simp [val]; omega
  simp [val]
 | _ :: _ :: _ :: _, h => simp at h
theorem brE{v x:Nat}(hv:v<4294967296)(hx:x<4294967296):v*2^32+x<18446744073709551616∧v*2^32<18446744073709551616:=by
 rw[show(2:Nat)^32=4294967296 by decide];omega
theorem brG(xs:List Nat):val (xs.drop xs.length)=0:=by rw[dL];rfl
def bcP(n:Nat)(H:Heap):Nat→Env→Heap→Prop:=λk env H1=>∃i:Nat,i≤(zK n).length∧env=[(4,qE n),(5,.int .u64 ((val ((zK n).drop i):Nat):Int)),(6,.int .i64 ((i:Int)-1))]∧H=H1∧k=i
theorem auK(n:Nat)(hn:n<18446744073709551616):Fn 209 [qE n] (.tuple [.int .u64 (n:Int),.bool true]):=by
 intro H;have hll:=bgQ.2 hn;have hLm:=zL n;refine .of_body func209 rfl ntmps209 results209 rfl ?_;iterate 9 refine AM ?_
 refine .cl rfl C158 (evs1 rfl) (qX (zK n) .shared (zL n) aA _) ?_;rw[zR];iterate 11 refine AX ?_
 refine .cond_false (tm rfl) (by exact aP aA) ?_;iterate 12 refine AM ?_
 iterate 5 refine AX ?_
 refine .loopW (bcP n H) ((zK n).length) ⟨(zK n).length,bB _,by rw[brG],rfl,rfl⟩ sX (hRa _) ?_;rintro _ _ _ ⟨i,hi,rfl,rfl,hk⟩;iterate 7 refine AX ?_
 refine .cx rfl (λhc16=>?_) (λhc16=>?_)
 ·obtain⟨hd1,hd2⟩:=brD hLm hll (i:=i) aA hi;have hg1:=hLm.getD (i-1);have hds:=brE hd1 hg1;iterate 6 refine AX ?_
  refine .p rfl (adC (tm rfl) (yT 32) aA (by exact hds.2)) ?_;iterate 2 refine AX ?_
  refine .p rfl (yL (i-1) U135 Z210 (tm rfl) (tm rfl) aA aA) ?_;iterate 2 refine AX ?_
  refine .p rfl (aaS (tm rfl) (tm rfl) (by exact hds.1)) ?_;iterate 10 refine AX ?_
  refine Round.mk ⟨i-1,by omega,rfl,rfl,rfl⟩ (zF rfl (zU rfl (by rw[hd2]) (zU rfl (by(congr 1;omega)) zW))) (hRa _) aA
 have hi0:i=0:=by omega
 subst hi0;iterate 14 refine AX ?_
 refine⟨?_,rfl⟩;rw[dY,zR];rfl
theorem zr191:ZR 191 [.bool false,.str [],.int .i64 0,.int .i64 0,.int .i64 0]:=ZRi zeroValue191
theorem pl191:PL 191 [(0,3),(3,1),(4,1)]:=PLi U191
theorem bsM{u p q:Nat}{st:Nat×Nat}(h:acU r u p q*st.2<acU r u st.1 st.2*q):tryN r u st p q=(p,q):=by unfold tryN;rw[aN h]
theorem bsN{u p q:Nat}{st:Nat×Nat}(h:¬acU r u p q*st.2<acU r u st.1 st.2*q):tryN r u st p q=st:=by unfold tryN;rw[aM h]
theorem bUpOne(s:Nat)(q:Int)(hq:q=(s:Int))(hs:s≤100000)(tl:Tail)(h:2^s<BIG):Fn 81 [.slice 1 (U .u32 [1]) tl,.int .i64 q] (qE (2^s)):=by
 intro H;have:=axI [1] tl (Limbs.mk aC Limbs.nil) aF s hs q hq (by rw[show val [1]=1 from rfl,cS];exact h) H
 rwa[show val [1]=1 from rfl,cS]at this
theorem bPlusOne(a:Nat)(tl:Tail)(h:a<BIG):Fn 128 [qE a,.slice 1 (U .u32 [1]) tl] (qE (a+1)):=by
 intro H;have:=ajC (zK a) .shared (zL a) (by have:=yM h;omega) [1] tl (Limbs.mk aC Limbs.nil) aF H
 rwa[zR,show val [1]=1 from rfl]at this
theorem bParts(a b:Nat)(ha:a<BIG)(hb:b<BIG)(h0:0<b):Fn 80 [qE a,qE b] (.tuple [qE (a/b),qE (a%b)]):=by
 intro H;have:=amW (zK a) .shared (zL a) (by have:=yM ha;omega) (zK b) .shared (zL b) (by have:=yM hb;omega) (by rw[zR];exact h0) H
 rwa[zR,zR]at this
theorem bTimes(a b:Nat)(ha:a<BIG)(hb:b<BIG):Fn 77 [qE a,qE b] (qE (a*b)):=by
 intro H;have:=adR (zK a) .shared (zL a) (by have:=yM ha;omega) (zK b) .shared (zL b) (by have:=yM hb;omega) H
 rwa[zR,zR]at this
theorem shrZr(a s:Nat)(q:Int)(hq:q=(s:Int))(h:a<BIG)(hs:s≤100000)(H:Heap):ACall prog 208 [qE a,.int .i64 q] H (λy H'=>(∃lost,y= .tuple [qE (a/2^s),.bool lost,.int .i64 0])∧H'=H):=by
 subst hq;exact bfV a s h hs H
def boS:AObj:=.box 191 [.bool false,.str [],.int .i64 0,.int .i64 0,.int .i64 0]
def bcX(x most b4:Nat)(H:Heap):Nat→Env→Heap→Prop:=λk env H1=>∃i:Nat,i≤most∧env=[(1,.int .i64 (most:Int)),(4,.ptr (some ⟨b4,0,none⟩)),(7,.bool (ahQ x)),(9,.int .i64 (zH x)),(11,qE (2^(-zH x).toNat)),(12,qE (zT x/2^(-zH x).toNat)),(13,qE (zT x%2^(-zH x).toNat)),(14,.int .i64 (((yK (zT x%2^(-zH x).toNat) (2^(-zH x).toNat) i).1:Nat):Int)),(15,.int .i64 (((yK (zT x%2^(-zH x).toNat) (2^(-zH x).toNat) i).2:Nat):Int)),(16,.int .i64 ((i+1:Nat):Int))]∧H1=H.set b4 boS∧k=most-i
theorem axL(x most:Nat)(hx:x<18446744073709551616)(hk:yZ x<3)(hm:1≤most∧most≤9999):Fn 125 [.int .u64 (x:Int),.int .i64 (most:Int)] (.tuple [.agg (frC (afB x most)),.int .i64 0]):=by
 intro H;have hpm:=agP x;have hpe:=acE x;have hmB:=adO (m:=zT x) aA;have hB0:100000<BIG:=by unfold BIG;decide+kernel
 refine .of_body func125 rfl ntmps125 results125 rfl ?_;iterate 2 refine AX ?_
 refine .al zr191 (λb4 hb4=>?_);iterate 6 refine AX ?_
 refine .cl rfl call113 (evs1 rfl) (ajZ x hx _) ?_;iterate 10 refine AX ?_
 refine .cond_false (tm rfl) (by rw[aQ aA];rfl) ?_;iterate 3 refine AX ?_
 refine .seqTo 33 (.bool (decide ((most:Int)<1∨9999<(most:Int)))) [0,1,4,5] ?_ ?_
 ·iterate 4 refine AX ?_
  refine zC (t:=30) rfl (λhg30=>?_) (λhg30=>?_)
  ·have hh30:=hg30;try simp only[aL]at hh30
   iterate 4 refine AX ?_
   exact⟨rfl,zO rfl (by(refine Eq.symm ?_;first|exact aO.2 aA|exact aQ aA|exact aP aA)) sX,rfl⟩
  have hh30:=hg30;try simp only[aL]at hh30
  iterate 4 refine AX ?_
  exact⟨rfl,zO rfl (by(refine Eq.symm ?_;first|exact aO.2 aA|exact aQ aA|exact aP aA)) sX,rfl⟩
 refine .sub [(33,_),(0,_),(1,_),(4,_),(5,_)] sX ?_;refine .cx rfl (λhc33=>?_) (λhc33=>?_)
 ·omega
 iterate 5 refine AX ?_
 refine .cl rfl call114 (evs1 rfl) (amV x hx _) ?_;iterate 12 refine AX ?_
 refine .cl rfl C116 (evs1 rfl) (adA (zT x) aA _) ?_;iterate 10 refine AX ?_
 refine .cx rfl (λhc44=>?_) (λhc44=>?_)
 ·iterate 5 refine AX ?_
  refine .cl rfl call115 (evs3 rfl rfl rfl) (alO (ahQ x) (zT x) (zH x) aA hpe _) (.p rfl (qU zr191 pl191 (.cons (tm rfl) (.inr ⟨_,rfl⟩) (.cons zJ (.inl rfl) (.cons zJ (.inl rfl) .nil))) rfl) ?_);iterate 4 refine AX ?_
  refine .frz (t:=4) rfl hb4 ?_;iterate 3 refine AX ?_
  refine⟨?_,rfl⟩;unfold afB;rw[aK];rfl
 have hse: -zH x=(((-zH x).toNat:Nat):Int):=by omega
 have hS:(-zH x).toNat≤1075:=by omega
 have hu0:0<(2^(-zH x).toNat):=cJ aC;have hrl:(zT x%2^(-zH x).toNat)<(2^(-zH x).toNat):=bX _ hu0;obtain⟨hO,hO2,hRb,hUB⟩:=bdP (show(-zH x).toNat≤3300 by omega) hrl;have hWl:(zT x/2^(-zH x).toNat)≤zT x:=eY _ _;have hWB:(zT x/2^(-zH x).toNat)<BIG:=bI hWl hmB;have hUa:∀a,a≤10000→(2^(-zH x).toNat)*a<BIG:=λa ha=>by have:=hO a 0 ha aA;unfold acU at this;rw[dO]at this;split at this<;>omega
 iterate 4 refine AX ?_
 refine .e rfl (yP U135 Z210 V210 rfl (yT 1) (.inl rfl) ⟨rfl,rfl⟩) ?_;iterate 2 refine AX ?_
 refine .cl rfl call81 (evs2 rfl rfl) (bUpOne (-zH x).toNat _ hse aA _ hUB _) ?_;iterate 7 refine AX ?_
 refine .cl rfl call80 (evs2 rfl rfl) (bParts (zT x) (2^(-zH x).toNat) hmB hUB hu0 _) ?_;iterate 24 refine AX ?_
 refine .loopW (bcX x most b4 H) (most) ⟨0,Nat.zero_le _,rfl,rfl,rfl⟩ sX (hRa _) ?_;rintro _ _ _ ⟨i,hi,rfl,rfl,rfl⟩;iterate 8 refine AX ?_
 refine .cx rfl (λhc62=>?_) (λhc62=>?_)
 ·obtain⟨P,hP⟩:∃P,P=(zT x%2^(-zH x).toNat)*(i+1)/(2^(-zH x).toNat):=⟨_,rfl⟩;have hPl:P≤9999:=by rw[hP];have:(zT x%2^(-zH x).toNat)*(i+1)/(2^(-zH x).toNat)≤i+1:=Nat.div_le_of_le_mul (bG _ (eS hrl));omega
  have hst:(yK (zT x%2^(-zH x).toNat) (2^(-zH x).toNat) i).1≤10000∧(yK (zT x%2^(-zH x).toNat) (2^(-zH x).toNat) i).2≤10000:=by have h1:=alT (zT x%2^(-zH x).toNat) (2^(-zH x).toNat) i;have h2:=alS hrl i;omega
  have hst2:=bjB (r:=(zT x%2^(-zH x).toNat)) (u:=(2^(-zH x).toNat)) (p:=P) (q:=i+1) (n:=10000) aA hst;have hrb1:=hRb (i+1) aA;have hRB:(zT x%2^(-zH x).toNat)<BIG:=by have:=hRb 1 aA;omega
  iterate 2 refine AX ?_
  refine .meet (λenv H2=>env=[(1,.int .i64 (most:Int)),(4,.ptr (some ⟨b4,0,none⟩)),(7,.bool (ahQ x)),(9,.int .i64 (zH x)),(11,qE (2^(-zH x).toNat)),(12,qE (zT x/2^(-zH x).toNat)),(13,qE (zT x%2^(-zH x).toNat)),(14,.int .i64 (((tryN (zT x%2^(-zH x).toNat) (2^(-zH x).toNat) (tryN (zT x%2^(-zH x).toNat) (2^(-zH x).toNat) (yK (zT x%2^(-zH x).toNat) (2^(-zH x).toNat) i) P (i+1)) (P+1) (i+1)).1:Nat):Int)),(15,.int .i64 (((tryN (zT x%2^(-zH x).toNat) (2^(-zH x).toNat) (tryN (zT x%2^(-zH x).toNat) (2^(-zH x).toNat) (yK (zT x%2^(-zH x).toNat) (2^(-zH x).toNat) i) P (i+1)) (P+1) (i+1)).2:Nat):Int)),(16,.int .i64 ((i+1:Nat):Int))]∧H2=H.set b4 boS) ?_ ?_
  ·iterate 6 refine AX ?_
   refine .cl rfl C116 (evs1 rfl) (adA (i+1) aA _) (.cl rfl C77 (evs2 rfl rfl) (bTimes (zT x%2^(-zH x).toNat) (i+1) hRB aA _) ?_);iterate 2 refine AX ?_
   refine .s rfl (zD call208 (evs2 rfl rfl) (shrZr ((zT x%2^(-zH x).toNat)*(i+1)) (-zH x).toNat _ hse hrb1 aA _)) ?_;rintro _ _ ⟨⟨lost,rfl⟩,hH⟩;obtain rfl:=hH.symm;rw[←hP];iterate 12 refine AX ?_
   refine .cl rfl call209 (evs1 rfl) (auK P aA _) ?_;iterate 14 refine AX ?_
   refine .meet (λenv H2=>env=[(1,.int .i64 (most:Int)),(4,.ptr (some ⟨b4,0,none⟩)),(7,.bool (ahQ x)),(9,.int .i64 (zH x)),(11,qE (2^(-zH x).toNat)),(12,qE (zT x/2^(-zH x).toNat)),(13,qE (zT x%2^(-zH x).toNat)),(14,.int .i64 (((tryN (zT x%2^(-zH x).toNat) (2^(-zH x).toNat) (yK (zT x%2^(-zH x).toNat) (2^(-zH x).toNat) i) P (i+1)).1:Nat):Int)),(15,.int .i64 (((tryN (zT x%2^(-zH x).toNat) (2^(-zH x).toNat) (yK (zT x%2^(-zH x).toNat) (2^(-zH x).toNat) i) P (i+1)).2:Nat):Int)),(16,.int .i64 ((i+1:Nat):Int)),(22,.int .i64 ((P:Nat):Int))]∧H2=H.set b4 boS) ?_ ?_
   ·iterate 8 refine AX ?_
    refine .cl rfl call210 (.cons (tm rfl) (.cons (tm rfl) (.cons (tm rfl) (evs3 rfl rfl rfl)))) (anB (zT x%2^(-zH x).toNat) (2^(-zH x).toNat) P (i+1) (yK (zT x%2^(-zH x).toNat) (2^(-zH x).toNat) i).1 (yK (zT x%2^(-zH x).toNat) (2^(-zH x).toNat) i).2 hRB hUB hB0 aA aA hst.1 hst.2 (λa b ha hb=>⟨hRb b hb,hUa a ha⟩) hO hO2 _) ?_;iterate 2 refine AX ?_
    refine .cx rfl (λhc90=>?_) (λhc90=>?_)
    ·have hT:tryN (zT x%2^(-zH x).toNat) (2^(-zH x).toNat) (yK (zT x%2^(-zH x).toNat) (2^(-zH x).toNat) i) P (i+1)=(P,i+1):=bsM (by simpa using hc90);iterate 11 refine AX ?_
     refine .mk ⟨rfl,rfl⟩ (zF rfl (zF rfl (zF rfl (zF rfl (zF rfl (zF rfl (zF rfl (zU rfl (by rw[hT]) (zU rfl (by rw[hT]) sX))))))))) (hRa _)
    have hT:tryN (zT x%2^(-zH x).toNat) (2^(-zH x).toNat) (yK (zT x%2^(-zH x).toNat) (2^(-zH x).toNat) i) P (i+1)=yK (zT x%2^(-zH x).toNat) (2^(-zH x).toNat) i:=bsN (by simpa using hc90);iterate 2 refine AX ?_
    refine .mk ⟨rfl,rfl⟩ (zF rfl (zF rfl (zF rfl (zF rfl (zF rfl (zF rfl (zF rfl (zU rfl (by rw[hT]) (zU rfl (by rw[hT]) sX))))))))) (hRa _)
   rintro _ _ ⟨rfl,rfl⟩;iterate 5 refine AX ?_
   refine .p rfl (.say (b:=.int .i64 ((P+1:Nat):Int)) (by congr 1) (yU (tm rfl) zJ aA)) ?_;iterate 3 refine AX ?_
   refine .cl rfl call210 (.cons (tm rfl) (.cons (tm rfl) (.cons (tm rfl) (evs3 rfl rfl rfl)))) (anB (zT x%2^(-zH x).toNat) (2^(-zH x).toNat) (P+1) (i+1) (tryN (zT x%2^(-zH x).toNat) (2^(-zH x).toNat) (yK (zT x%2^(-zH x).toNat) (2^(-zH x).toNat) i) P (i+1)).1 (tryN (zT x%2^(-zH x).toNat) (2^(-zH x).toNat) (yK (zT x%2^(-zH x).toNat) (2^(-zH x).toNat) i) P (i+1)).2 hRB hUB hB0 aA aA hst2.1 hst2.2 (λa b ha hb=>⟨hRb b hb,hUa a ha⟩) hO hO2 _) ?_;iterate 2 refine AX ?_
   refine .cx rfl (λhc100=>?_) (λhc100=>?_)
   ·have hT:tryN (zT x%2^(-zH x).toNat) (2^(-zH x).toNat) (tryN (zT x%2^(-zH x).toNat) (2^(-zH x).toNat) (yK (zT x%2^(-zH x).toNat) (2^(-zH x).toNat) i) P (i+1)) (P+1) (i+1)=(P+1,i+1):=bsM (by simpa using hc100);iterate 3 refine AX ?_
    refine .p rfl (.say (b:=.int .i64 ((P+1:Nat):Int)) (by congr 1) (yU (tm rfl) zJ aA)) ?_;iterate 9 refine AX ?_
    refine .mk ⟨rfl,rfl⟩ (zF rfl (zF rfl (zF rfl (zF rfl (zF rfl (zF rfl (zF rfl (zU rfl (by rw[hT]) (zU rfl (by rw[hT]) (zF rfl zW)))))))))) (hRa _)
   have hT:tryN (zT x%2^(-zH x).toNat) (2^(-zH x).toNat) (tryN (zT x%2^(-zH x).toNat) (2^(-zH x).toNat) (yK (zT x%2^(-zH x).toNat) (2^(-zH x).toNat) i) P (i+1)) (P+1) (i+1)=tryN (zT x%2^(-zH x).toNat) (2^(-zH x).toNat) (yK (zT x%2^(-zH x).toNat) (2^(-zH x).toNat) i) P (i+1):=bsN (by simpa using hc100);iterate 3 refine AX ?_
   refine .mk ⟨rfl,rfl⟩ (zF rfl (zF rfl (zF rfl (zF rfl (zF rfl (zF rfl (zF rfl (zU rfl (by rw[hT]) (zU rfl (by rw[hT]) (zF rfl zW)))))))))) (hRa _)
  rintro _ _ ⟨rfl,rfl⟩;iterate 2 refine AX ?_
  refine .p rfl (.say (b:=.int .i64 ((i+1+1:Nat):Int)) (by congr 1) (yU (tm rfl) zJ aA)) ?_;iterate 3 refine AX ?_
  refine Round.mk ⟨i+1,by omega,rfl,rfl,rfl⟩ (zF rfl (zF rfl (zF rfl (zF rfl (zF rfl (zF rfl (zF rfl (zU rfl (by rw[hP];rfl) (zU rfl (by rw[hP];rfl) (zF rfl zW)))))))))) (hRa _) aA
 iterate 5 refine AX ?_
 refine .meet (λenv H2=>env=[(4,.ptr (some ⟨b4,0,none⟩)),(7,.bool (ahQ x)),(12,qE ((zT x/2^(-zH x).toNat)+(aaF (zT x%2^(-zH x).toNat) (2^(-zH x).toNat) most).1)),(14,.int .i64 (((aaF (zT x%2^(-zH x).toNat) (2^(-zH x).toNat) most).2.1:Nat):Int)),(15,.int .i64 (((aaF (zT x%2^(-zH x).toNat) (2^(-zH x).toNat) most).2.2:Nat):Int))]∧H2=H.set b4 boS) ?_ ?_
 ·refine AX ?_;have him:most=i:=by omega
  subst him;iterate 6 refine AX ?_
  refine .cx rfl (λhc106=>?_) (λhc106=>?_)
  ·have hF:=bfT hrl most aA;have hN:=bdD hF;iterate 3 refine AX ?_
   refine .e rfl (yP U135 Z210 V210 rfl (yT 1) (.inl rfl) ⟨rfl,rfl⟩) (.cl rfl call128 (evs2 rfl rfl) (bPlusOne (zT x/2^(-zH x).toNat) _ aA _) ?_);iterate 12 refine AX ?_
   refine .mk ⟨rfl,rfl⟩ (zF rfl (zF rfl (zU rfl (by rw[hN]) (zU rfl (by rw[hN];rfl) (zU rfl (by rw[hN];rfl) zW))))) (hRa _)
  have hN:=bdE (r:=(zT x%2^(-zH x).toNat)) (u:=(2^(-zH x).toNat)) (n:=most) (λq=>by rw[q]at hc106;exact hc106 rfl);iterate 2 refine AX ?_
  refine .mk ⟨rfl,rfl⟩ (zF rfl (zF rfl (zU rfl (by rw[hN];rfl) (zU rfl (by rw[hN]) (zU rfl (by rw[hN]) zW))))) (hRa _)
 rintro _ _ ⟨rfl,rfl⟩;have hlast:(zT x/2^(-zH x).toNat)+(aaF (zT x%2^(-zH x).toNat) (2^(-zH x).toNat) most).1<18014398509481984:=by unfold aaF;split<;>dsimp only<;>omega
 iterate 4 refine AX ?_
 refine .cl rfl call115 (.cons (tm rfl) (.cons (tm rfl) (.cons zJ .nil))) (alO (ahQ x) ((zT x/2^(-zH x).toNat)+(aaF (zT x%2^(-zH x).toNat) (2^(-zH x).toNat) most).1) 0 hlast aA _) ?_;iterate 2 refine AX ?_
 refine .p rfl (qU zr191 pl191 (.cons (tm rfl) (.inr ⟨_,rfl⟩) (.cons (tm rfl) (.inl rfl) (.cons (tm rfl) (.inl rfl) .nil))) rfl) (.e0 (zM Z191 (tm rfl) (tm rfl) rfl rfl (.inr ⟨_,rfl⟩) (oS _ _ _) (lB rfl)) ?_);try first|rw[sS]|rw[sU aB]
 iterate 3 refine AX ?_
 refine .frz (t:=4) rfl hb4 ?_;iterate 2 refine AX ?_
 refine⟨?_,rfl⟩;unfold afB;rw[aJ];rfl
end
end Go.Proofs.YteedncdcbgplfaaGreatDoor
