import Derived.Test.YteedncdcbgplfaaGreatDoorL1
set_option maxHeartbeats 1000000
namespace Go.Proofs.YteedncdcbgplfaaGreatDoor
open Go.Proofs.Tryz
open Go Go.RowKit
variable{a i:Nat}{zs:List Nat}{neg:Bool}{ds:List UInt8}
theorem brQ(s:SecN)(x:Nat):blV [s] x=s:=by
 unfold blV;rw[aM (λh=>absurd h.1 aF),aM (λh=>absurd h.1 aF)];rfl
section
open Go Go.RowKit
open Go Go.RowKit
def ShrOK(a n:Nat)(zs:List Nat)(i:Nat):Prop:=val zs=a%2^i/2^n
theorem ShrOK.none{n:Nat}(h:ShrOK a n zs i)(h0:a/2^i%2≠1∨i<n):ShrOK a n zs (i+1):=by
 unfold ShrOK at *;rw[h,Nat.mod_pow_succ];rcases h0 with h0|h0
 ·rw[show a/2^i%2=0 by omega,dJ,cA]
 have h1:2^i*2≤2^n:=by rw[←bP];exact bB aC h0
 have h2:=bR a (bL (n:=i) (by decide:0<2));have h3:2^i*(a/2^i%2)≤2^i*1:=bS _ aA;rw[cD aA,cD aA]
theorem ShrOK.lt{n:Nat}(h:ShrOK a n zs i)(hn:n≤i):val zs<2^(i-n):=by
 unfold ShrOK at h;rw[h];refine Nat.div_lt_of_lt_mul ?_;rw[←bI,show n+(i-n)=i by omega];exact bR _ (bL aC)
theorem bvB{q:Nat}(hz:Limbs zs)(h:val zs<2^q):zs.getD (q/32) 0<2^(q%32):=by
 rw[buP zs _ hz,show(4294967296:Nat)=2^32 by decide,←dV];refine bA (Nat.mod_le _ _) (Nat.div_lt_of_lt_mul ?_);rw[←bI,cM];exact h
theorem ShrOK.low{n:Nat}(h:ShrOK a n zs i)(hz:Limbs zs)(hn:n≤i):zs.getD ((i-n)/32) 0|||2^((i-n)%32)=zs.getD ((i-n)/32) 0+2^((i-n)%32)∧zs.getD ((i-n)/32) 0+2^((i-n)%32)<4294967296:=by
 have h1:=bvB hz (h.lt hn);generalize zs.getD ((i-n)/32) 0=gl at *;have h32:=bR (i-n) (by decide:0<32);generalize(i-n)%32=s at *;have e:(4294967296:Nat)=2^32:=by decide
 have h2:2^s*2≤2^32:=by rw[←bP];exact bB aC h32
 refine⟨?_,by omega⟩;have h3:=Nat.two_pow_add_eq_or_of_lt h1 1;rw[fB]at h3;rw[Nat.or_comm,←h3,fG]
theorem ShrOK.take{n:Nat}(h:ShrOK a n zs i)(hn:n≤i)(hb:a/2^i%2=1)(hl:(i-n)/32<zs.length):ShrOK a n (zs.set ((i-n)/32) (zs.getD ((i-n)/32) 0+2^((i-n)%32))) (i+1):=by
 have e:=awX (zs:=zs) (i:=(i-n)/32) (v:=zs.getD ((i-n)/32) 0+2^((i-n)%32)) hl;have e2:(4294967296:Nat)^((i-n)/32)*2^((i-n)%32)=2^(i-n):=by
  rw[show(4294967296:Nat)=2^32 by decide,←dV,←bI,cM]
 rw[cB,e2]at e;have h':val zs=a%2^i/2^n:=h;have h4:a%2^(i+1)/2^n=val zs+2^(i-n):=by
  rw[Nat.mod_pow_succ,hb,fB,h',show(2:Nat)^i=2^n*2^(i-n) by rw[←bI,show n+(i-n)=i by omega],fR _ _ (bL aC)]
 unfold ShrOK;rw[h4];omega
theorem ShrOK.done{n:Nat}(h:ShrOK a n zs i)(hi:a<2^i):val zs=a/2^n:=by
 unfold ShrOK at h;rw[h,bH hi]
theorem ShrOK.begin(a n k:Nat):ShrOK a n (List.replicate k 0) 0:=by unfold ShrOK;rw[alD,eA,Nat.mod_one,Nat.zero_div]
end
theorem bzW(r unit q:Nat):agR r unit q q=agR r unit 1 1*q:=by
 unfold agR;rw[fB,fB];by_cases h:r<unit
 ·rcases bF q with h0|h0
  ·subst h0;simp
  rw[aN h,aN (dE h h0),Nat.sub_mul]
 have h2:¬r*q<unit*q:=by have:=bD q (Nat.le_of_not_lt h);omega
 rw[aM h,aM h2,Nat.sub_mul]
def OneOK(r unit:Nat)(st:Nat×Nat):Prop:=0<st.2∧agR r unit st.1 st.2≤agR r unit 1 1*st.2∧(st.1=st.2→st=(1,1))
theorem OneOK.tryN{r unit p q:Nat}{st:Nat×Nat}(h:OneOK r unit st)(hq:0<q):OneOK r unit (tryN r unit st p q):=by
 unfold Go.Proofs.YteedncdcbgplfaaGreatDoor.tryN;split
 ·rename_i ht
  obtain⟨h0,h1,h2⟩:=h;refine⟨hq,?_,?_⟩
  ·show agR r unit p q≤agR r unit 1 1*q;have h3:agR r unit st.1 st.2*q≤agR r unit 1 1*st.2*q:=bD _ h1;have h4:agR r unit p q*st.2<agR r unit 1 1*q*st.2:=by
    rw[show agR r unit 1 1*q*st.2=agR r unit 1 1*st.2*q by rw[bJ,bM q,←bJ]];omega
   exact dK (eF h4)
  intro(e:p=q);subst e;rw[bzW,bJ,bM p,←bJ]at ht;have h5:=eF ht;omega
 exact h
section
open Go Go.RowKit
open Go Go.RowKit
theorem caK(neg:Bool)(ds:List UInt8):0≤(mkN neg ds 0).1.2.2:=by
 unfold mkN;split
 ·exact Int.le_refl _
 split
 ·show(0:Int)≤0+(adT ds:Int);omega
 exact Int.le_refl _
theorem caC(neg:Bool)(m:Nat){e:Int}(he:0≤e):0≤(ofN neg m e).2.2:=by unfold ofN;rw[aN he];exact caK _ _
theorem ckQ(s:List UInt8):num (48::s)=num s:=by rw[ajW];simp
end
section
open Go Go.RowKit
open Go Go.RowKit
theorem btS {o : Loc} (ho : o.ok) {s : SecN} (h : yH s = 2 ∨ yH s = 3) (hl : s.items.length ≤ 100) {e : Int} (hr : yE ds e = true) (hp : -4000 ≤ zU ds e ∧ zU ds e ≤ 4000) :
  (bdO s.items s.grouped s.scale o neg ds e (s.items.map (aeL o))).map Pc.txt = bfX s.items s.grouped s.scale o neg ds e ((s.items.map (aeL o)).map Pc.txt) ∧
  ∀ q : List (List UInt8), q = agQ s.items (abJ (apE s.items s.scale neg ds e) (acZ s.items).length).2 0 (acZ s.items) (ceG s.items neg ds e ((s.items.map (aeL o)).map Pc.txt)) → (aiT s.items).length = 0 → zZ s.items [3, 5] < s.items.length ∧ (q.getD (zZ s.items [3, 5]) []).length ≤ 1000 := by
 obtain ⟨h1, _, h3, h4, _⟩ := alZ h
 obtain ⟨f1, f2, f3⟩ := bbT h
 have hok := asB (l := s.items) (sc := s.scale) (neg := neg) hr hp aA aA
 have hc5 := aaX s.items [5]
 have hlb : (acZ s.items).length ≤ s.items.length := bC (adZ _ _ _) hc5
 refine ⟨bnK f1 f2 (fun k hk hd => clB h1 hk hd) (fun q => (f3 q).1) ?_, fun q hq hz => ?_⟩
 ·exact (aiA hok.1 hok.2).1
 obtain ⟨g1, g2⟩ := f2 hz
 refine ⟨by omega, ?_⟩
 rw [hq, apC 0 (acZ s.items) _ (fun z => by have := (abI.1 z).2.2; rw [g2] at this; cases this), asA (fun q => (f3 q).1) g1, bcE o aA g2]
 have := ho.1; omega

end
section
open Go Go.RowKit
open Go Go.RowKit
theorem akG(c:UInt8)(s:List UInt8):∀a,(List.replicate a c++s).dropWhile (·==c)=s.dropWhile (·==c)
 |0=>rfl
 |a+1=>by
  rw[eY,eE,eC,aN aF];exact akG c s a
theorem bcU{c x:UInt8}{s:List UInt8}(h:x≠c):(x::s).dropWhile (·==c)=x::s:=by
 rw[eC,aM (by simpa using h)]
theorem blM{c:UInt8}{s:List UInt8}(hn:s≠[])(h:s.getD (s.length-1) 0≠c)(b:Nat):Lib.trimRightB (s++List.replicate b c) c=s:=by
 have hl:=bV.2 hn;unfold Lib.trimRightB;rw[List.reverse_append,List.reverse_replicate,akG];obtain⟨x,q,hx⟩:∃x q,s.reverse=x::q:=by
  cases hs:s.reverse with
  |nil=>exact absurd (List.reverse_eq_nil_iff.1 hs) hn
  |cons x q=>exact⟨x,q,rfl⟩
 have hxc:x≠c:=by
  have:s.getD (s.length-1) 0=x:=by
   have h2:s=q.reverse++[x]:=by rw[←List.reverse_reverse s,hx,List.reverse_cons]
   rw[h2,aP];simp
  rw[←this];exact h
 rw[hx,bcU hxc,←hx,List.reverse_reverse]
theorem caI{e e':Int}(hr:yE ds e=true)(hn:ds≠[])(a b:Nat)(he:e'+b=e):mkN neg (List.replicate a 48++(ds++List.replicate b 48)) e'=((neg,ds,e),0):=by
 have hr2:=hr;unfold yE at hr2;rw[aM hn]at hr2;simp only[bN,aT,fU,aR]at hr2;obtain⟨⟨⟨⟨⟨h1,h2⟩,h3⟩,h4⟩,h5⟩,h6⟩:=hr2;have hlong:akP (List.replicate a 48++(ds++List.replicate b 48))=ds++List.replicate b 48:=by
  unfold akP;rw[akG]
  match ds,hn,h5 with
  |x::q,_,h5=>exact bcU (by simpa using h5)
 have hcore:abE (List.replicate a 48++(ds++List.replicate b 48))=ds:=by
  unfold abE;rw[hlong];exact blM hn h6 b
 have hmore:adT (List.replicate a 48++(ds++List.replicate b 48))=b:=by
  unfold adT;rw[hlong,hcore,aO,bE];omega
 unfold mkN;rw[hcore,aM hn,aN (by unfold okD;rw[hcore,hmore];omega),hmore,he]
theorem caJ{e:Int}(a:Nat):mkN neg (List.replicate a 48) e=((neg,[],0),0):=by
 have h:abE (List.replicate a 48)=[]:=by
  have:=akG 48 [] a;rw[bU]at this;unfold abE akP;rw[this];rfl
 unfold mkN;rw[h,aN rfl]
def alC:ItN:=⟨2,[48]⟩
def bnH:ItN:=⟨3,[]⟩
def agV(m n:Nat):List ItN:=List.replicate m alC++bnH::List.replicate n alC
def cmT(m n:Nat):Bool:=
 aeP [⟨agV m n,false,0⟩]&&decide (yH ⟨agV m n,false,0⟩=2)&&decide (aiT (agV m n)=List.range' 0 m)&&decide (acZ (agV m n)=List.range' (m+1) n)&&decide (zZ (agV m n) [5]=(agV m n).length)&&decide (zZ (agV m n) [4]=(agV m n).length)
theorem bzV:(List.range 20).all (λa=>(List.range 20).all λn=>cmT (a+1) n)=true:=by kernel_rfl
structure FactsD (m n:Nat):Prop where
 right:aeP [⟨agV m n,false,0⟩]=true
 shape:yH ⟨agV m n,false,0⟩=2
 ahd:aiT (agV m n)=List.range' 0 m
 bhd:acZ (agV m n)=List.range' (m+1) n
 c5:zZ (agV m n) [5]=(agV m n).length
 c4:zZ (agV m n) [4]=(agV m n).length
theorem factsD{n:Nat}(ha:a<20)(hn:n<20):FactsD (a+1) n:=by
 have h:=eD.1 (eD.1 bzV a (gA.2 ha)) n (gA.2 hn);unfold cmT at h;simp only[bN,aT]at h;exact⟨h.1.1.1.1.1,h.1.1.1.1.2,h.1.1.1.2,h.1.1.2,h.1.2,h.2⟩
theorem bjY(m n:Nat):(agV m n).length=m+1+n:=by unfold agV;simp;omega
theorem bjX{m n:Nat}(h:i<m∨m<i∧i<m+1+n):aaA (agV m n) i=[48]:=by
 unfold aaA agV;rw[aP];rcases h with h|⟨h1,h2⟩
 ·rw[cV (by simpa using h),gF,aN h];rfl
 rw[cY aG,bE];obtain⟨k,hk⟩:∃k,i-m=k+1:=⟨i-m-1,by omega⟩;rw[hk,fT,gF,aK];rfl
theorem alW{α:Type}{q:List α}(x:α)(h:i<q.length):(q.set i x).take (i+1)=q.take i++[x]:=by
 rw[List.take_succ_eq_append_getElem (by simpa using h),List.getElem_set_self,List.take_set_of_le (aZ _)]
theorem asR{α:Type}{q:List α}{k:Nat}(x:α)(h:i<k):(q.set i x).drop k=q.drop k:=List.drop_set_of_lt h
theorem alL{l:List ItN}{row:List UInt8}:∀(c i k0:Nat)(q:List (List UInt8)),k0+c≤q.length→i+c≤row.length→(∀j,k0≤j→j<k0+c→aaA l j=[48])→
  agQ l row i (List.range' k0 c) q=q.take k0++((row.drop i).take c).map (λx=>[x])++q.drop (k0+c)
 |0,i,k0,q,_,_,_=>by simp[agQ]
 |c+1,i,k0,q,hq,hr,ht=>by
  have h0:aaA l k0=[48]:=ht k0 (aZ _) aA;have hrest:beS l row i (k0::List.range' (k0+1) c)=true:=by
   rw[beS,aU (p:=aaA l k0=[48]) h0,Bool.or_true,Bool.true_or]
  rw[List.range'_succ,agQ,hrest,aN rfl,alL c (i+1) (k0+1) _ (by rw[cP];omega) aA (λj h1 h2=>ht j aA aA),
    alW _ aA,asR _ aA,show k0+1+c=k0+(c+1) by omega]
  have e:row.drop i=row.getD i 0::row.drop (i+1):=by
   rw[cL aA,aP,aX aA];rfl
  rw[e,fI,dX];simp
def amO(row:List UInt8)(fst:Bool)(c:Nat):List UInt8:=if c=0 then []else List.replicate (c-row.length) 48++(if fst then row else row.drop (row.length-c))
theorem auH{l:List ItN}{mk:Nat→List UInt8}(hmk:∀k,mk k=[]){row:List UInt8}:∀(c i:Nat)(fst z:Bool)(q:List (List UInt8)),i+c≤q.length→(∀j,i≤j→j<i+c→aaA l j=[48])→
  (aiM l mk row fst z (List.range' i c) q).flatten=(q.take i).flatten++amO row fst c++(q.drop (i+c)).flatten
 |0,i,fst,z,q,_,_=>by
  show q.flatten=_;unfold amO;rw[aN rfl,bU,cA,←List.flatten_append,cK]
 |c+1,i,fst,z,q,hq,ht=>by
  have h0:aaA l i=[48]:=ht i (aZ _) aA;rw[List.range'_succ,aiM,auH hmk c (i+1) false _ _ (by rw[cP];omega) (λj h1 h2=>ht j aA aA),alW _ aA,asR _ aA,show i+1+c=i+(c+1) by omega,
    fN,List.flatten_append,aU (p:=aaA l i=[48]) h0,Bool.or_true,aN rfl,baR hmk,hmk]
  have hp:(if c<row.length then adS row fst c else [48])++amO row false c=amO row fst (c+1):=by
   unfold amO;rw[aM (Nat.succ_ne_zero c)];by_cases h:c<row.length
   ·rw[aN h,show c+1-row.length=0 by omega,List.replicate_zero,cH];have h1:(if c=0 then([]:List UInt8)else List.replicate (c-row.length) 48++(if false=true then row else row.drop (row.length-c)))=row.drop (row.length-c):=by
     split
     ·rename_i h2;subst h2;simp
     rw[show c-row.length=0 by omega];simp
    rw[h1];unfold adS;cases fst with
    |true=>simp
    |false=>
     simp only[dN,if_false];rw[show row.length-(c+1)=row.length-1-c by omega];have h3:row.drop (row.length-1-c)=((row.take (row.length-c)).drop (row.length-1-c))++row.drop (row.length-c):=by
      have h4:=eI (l₁:=row.take (row.length-c)) (l₂:=row.drop (row.length-c)) (i:=row.length-1-c) (by rw[aV];omega);rw[cK]at h4;exact h4
     exact h3.symm
   rw[aM h];have h1:(if c=0 then([]:List UInt8)else List.replicate (c-row.length) 48++(if false=true then row else row.drop (row.length-c)))=List.replicate (c-row.length) 48++row:=by
    split
    ·rename_i h2;subst h2
     rw[cW (show row.length=0 by omega)];rfl
    rw[show row.length-c=0 by omega];rfl
   have h2:(if fst=true then row else row.drop (row.length-(c+1)))=row:=by
    split
    ·rfl
    rw[show row.length-(c+1)=0 by omega];rfl
   rw[h1,h2,show c+1-row.length=(c-row.length)+1 by omega,eY];rfl
  rw[←hp];simp
theorem cbI(m n:Nat):((agV m n).map (aeL enL)).map Pc.txt=List.replicate m []++[46]::List.replicate n []:=by
 unfold agV;rw[eS,eS,dX,dX,fC,fC,fC,fC];rfl
theorem bjB{m n:Nat}(h:FactsD m n)(neg:Bool)(ds:List UInt8)(e:Int):apE (agV m n) 0 neg ds e=yL neg ds e (n:Int):=by
 unfold apE bjJ;rw[h.c5,aM (fX _),h.c4,aM (fX _),bqT ds e rfl,h.bhd,fN]
theorem asO(s:List UInt8):(s.map λx=>[x]).flatten=s:=by
 induction s with
 |nil=>rfl
 |cons x s ih=>rw[dX,List.flatten_cons,ih];rfl
theorem bgU{m n:Nat}(hm:0<m)(hml:m+n≤60)(h:FactsD m n){e:Int}(hr:yE ds e=true)(hp: -4000≤zU ds e∧zU ds e≤4000):
  afY (bdO (agV m n) false 0 enL neg ds e ((agV m n).map (aeL enL)))=amO (abJ (yL neg ds e (n:Int)) n).1 true m++46::(abJ (yL neg ds e (n:Int)) n).2:=by
 have hlen:=bjY m n;have hnl:=(btS (s:=⟨agV m n,false,0⟩) (neg:=neg) (asF _ mEn) (.inl h.shape) (by show(agV m n).length≤100;omega) hr hp).1;have hnl:(bdO (agV m n) false 0 enL neg ds e ((agV m n).map (aeL enL))).map Pc.txt=bfX (agV m n) false 0 enL neg ds e (((agV m n).map (aeL enL)).map Pc.txt):=hnl;unfold afY;rw[hnl];have hok:=asB (l:=agV m n) (sc:=0) (neg:=neg) hr hp aA aA;have hsl:=(aiA hok.1 hok.2).1;rw[bjB h,h.bhd,fN]at hsl;unfold bfX ceG;rw[h.c5,aM (fX _),h.ahd,h.bhd,bjB h,fN];generalize abJ (yL neg ds e (n:Int)) n=S at *;unfold whW;rw[fN,aJ,cbI];have hq:(List.replicate m []++[46]::List.replicate n []:List (List UInt8)).length=m+1+n:=by simp;omega
 rw[alL n 0 (m+1) _ (by rw[hq];omega) aA (λj h1 h2=>bjX (.inr ⟨by omega,by omega⟩))];have e1:(List.replicate m []++[46]::List.replicate n []:List (List UInt8)).take (m+1)=List.replicate m []++[[46]]:=by
  rw[gX,aY aF,bE,show m+1-m=1 by omega];rfl
 have e2:(List.replicate m []++[46]::List.replicate n []:List (List UInt8)).drop (m+1+n)=[]:=cS (by rw[hq];omega);rw[e1,e2,bU,dL,aY aA];rw[auH (λk=>bbX (.inl rfl)) m 0 true false _ aF (λj h1 h2=>bjX (.inl aA))];rw[fH,List.flatten_nil,cH,bZ,bK,eI aF,cS aF,cH,List.flatten_append,asO];rfl
theorem ayG{m n:Nat}(hm:0<m)(hml:m+n≤60)(h:FactsD m n){y:Nat}(hy:y<9223372036854775808)(hk:yK y<3):
  abW enL [⟨agV m n,false,0⟩] y=(amO (abJ (yL (yS y).1.1 (yS y).1.2.1 (yS y).1.2.2 (n:Int)) n).1 true m++46::(abJ (yL (yS y).1.1 (yS y).1.2.1 (yS y).1.2.2 (n:Int)) n).2,0):=by
 have ha:abZ y=y:=by unfold abZ;omega
 unfold abW;rw[aM (by rw[h.right];simp),aM (show¬3≤yK y by omega),brQ,aM (λq=>absurd q.2.1 aA),cH];have e:(abM enL ⟨agV m n,false,0⟩ y).1=bdO (agV m n) false 0 enL (yS y).1.1 (yS y).1.2.1 (yS y).1.2.2 ((agV m n).map (aeL enL)):=by
  unfold abM;rw[h.shape,aM aC,aM aC,aN (.inl rfl),ha]
 rw[e,bgU hm hml h (qP y) (ajF hk)]
theorem alO{D:Bool×List UInt8×Int}{n m:Nat}(hm:0<m)(hr:yE D.2.1 D.2.2=true)(hx:D.2.1=[]∨ -(n:Int)≤D.2.2):
  mkN D.1 (amO (abJ D n).1 true m++(abJ D n).2) (-(n:Int))=(D,0)∧(amO (abJ D n).1 true m).length=max m (abJ D n).1.length∧(m<(abJ D n).1.length→(amO (abJ D n).1 true m).getD 0 0≠48):=by
 obtain⟨neg,ds,e⟩:=D;have hr:yE ds e=true:=hr;have hx:ds=[]∨ -(n:Int)≤e:=hx;have hpx:amO (abJ (neg,ds,e) n).1 true m=List.replicate (m-(abJ (neg,ds,e) n).1.length) 48++(abJ (neg,ds,e) n).1:=by
  unfold amO;rw[aJ];rfl
 rw[hpx];refine⟨?_,by rw[aO,bE];omega,?_⟩
 ·by_cases h0:ds=[]
  ·have he:e=0:=by subst h0;simpa[yE]using hr
   subst h0;subst he;have e1:abJ (neg,[],0) n=([],List.replicate n 48):=rfl;rw[e1];show mkN neg ((List.replicate (m-0) 48++[])++List.replicate n 48) (-(n:Int))=_;rw[bU,List.replicate_append_replicate,caJ]
  have hn:=hx.resolve_left h0;have hp:=qU hr;have hl:=bV.2 h0;have e1:(abJ (neg,ds,e) n).1++(abJ (neg,ds,e) n).2=List.replicate (-(zU ds e)).toNat 48++(ds++List.replicate ((zU ds e).toNat+n-(List.replicate (-(zU ds e)).toNat 48++ds:List UInt8).length) 48):=by
   unfold abJ adC;rw[aM h0];show List.take _ _++List.drop _ _=_;rw[cK,bK]
  rw[bK,e1,←bK,List.replicate_append_replicate];refine caI hr h0 _ _ ?_;rw[aO,bE];omega
 intro h;rw[show m-(abJ (neg,ds,e) n).1.length=0 by omega,List.replicate_zero,cH];have h0:ds≠[]:=by
  intro q;subst q;have:(abJ (neg,[],e) n).1=[]:=rfl;rw[this]at h;simp at h
 have hp:=qU hr;have hl:=bV.2 h0;have hsl:=ajN ds (zU ds e) n;have hsd:(abJ (neg,ds,e) n).1=(adC ds (zU ds e) n).1:=rfl;rw[hsd]at h ⊢;have hp0:0<zU ds e:=by omega
 unfold adC;rw[aM h0,show(-(zU ds e)).toNat=0 by omega,List.replicate_zero,cH];unfold yE at hr;rw[aM h0]at hr;simp only[bN,fU,aR]at hr
 match ds,h0,hr with
 |c::r,_,hr=>
  obtain⟨k,hk⟩:∃k,(zU (c::r) e).toNat=k+1:=⟨(zU (c::r) e).toNat-1,by omega⟩;rw[hk];exact hr.1.2
end
section
open Go Go.RowKit
set_option maxRecDepth 100000
theorem eqInD(d:Nat)(a:Bool)(s:ByteArray)(e:Int)(w:World):(Op.equalIn (d+2) 61 (.agg #[.bool a,.string s,.int .i64 e]) (.agg #[.bool a,.string s,.int .i64 e])).run prog w= .ok true w:=by
 have u3:=U3;have a3:=G3;have z3:=Z3;have u4:=U4;have a4:=isAgg4;have z4:=Z4;have u9:=U9;have a9:=G9;have z9:=Z9;have hS:prog.underlying 61=some (.struct (prog.fieldsOf 61)):=by kernel_rfl
 have hp:prog.stoodInHeld 61=false:=by kernel_rfl
 rw[run_equalIn_agg w (d+1) 61 _ _ hS hp];simp only[Program.fieldsOf,U61]
 go_simp
theorem eqD(D:Bool×List UInt8×Int):atJ prog 61 [.bool D.1,.str D.2.1,.int .i64 D.2.2] [.bool D.1,.str D.2.1,.int .i64 D.2.2] true:=λg xs ys w h k=>by
 rw[h.plain [.bool D.1,.string ⟨D.2.1.toArray⟩,.int .i64 D.2.2] rfl,k.plain [.bool D.1,.string ⟨D.2.1.toArray⟩,.int .i64 D.2.2] rfl];exact eqInD 9998 _ _ _ w
theorem blZ{e k:Int}:(yL false ds e k).1=false:=by
 have key:∀a b,(mkN false a b).1.1=false:=λa b=>by unfold mkN;split;rfl;split<;>rfl
 unfold yL adF;split
 ·unfold bcY;exact key _ _
 rfl
theorem agI{e k:Int}(h:yE ds e=true)(hk:0≤k):zU (yL neg ds e k).2.1 (yL neg ds e k).2.2≤max 1 (zU ds e+1):=by
 have hp:=qU h;have hd:=qC h;unfold yL adF;split
 ·obtain⟨n,hn⟩:∃n,zU ds e+k=n:=⟨_,rfl⟩;rw[hn];have hkl:(aeM ds n).length≤n.toNat:=by
   unfold aeM;split
   ·rw[aV];omega
   exact Nat.zero_le _
  have hil:=akB (aeM ds n);unfold bcY;have hX:∀X:List UInt8,Digs X→X.length≤n.toNat+1→zU (mkN neg X (e+ds.length-n)).1.2.1 (mkN neg X (e+ds.length-n)).1.2.2≤max 1 (zU ds e+1):=λX hX hl=>by
   have:=ayL (neg:=neg) (e:=e+ds.length-n) hX;omega
  split
  ·exact hX _ (ahP (adV n hd)) aA
  exact hX _ (adV n hd) aA
 show zU ds e≤_;omega
theorem biG{D:Bool×List UInt8×Int}{n:Nat}(h:yE D.2.1 D.2.2=true)(m:Nat):Digs (amO (abJ D n).1 true m++(abJ D n).2):=by
 have hd:=qC h;have h0:isD 48:=by unfold isD;decide
 have hrep:∀k,Digs (List.replicate k 48):=λk c hc=>by rw[fO hc];exact h0
 have h1:Digs (abJ D n).1:=aqN hd _ _;have h2:Digs (abJ D n).2:=by
  unfold abJ adC;split
  ·exact hrep _
  intro c hc;have hc:=gD hc;rcases cN.1 hc with q|q
  ·rcases cN.1 q with q|q
   ·exact hrep _ c q
   exact hd c q
  exact hrep _ c q
 intro c hc;rcases cN.1 hc with q|q
 ·unfold amO at q;split at q
  ·cases q
  rcases cN.1 q with q|q
  ·exact hrep _ c q
  exact h1 c q
 exact h2 c q
theorem ccF{y:Nat}(h:alN y=false)(_:yK y<3):(yS y).1.1=false:=by
 have key:∀a b,(mkN false a b).1.1=false:=λa b=>by unfold mkN;split;rfl;split<;>rfl
 unfold yS;first
 |(rw[h];split<;>first|rfl|(unfold ofN;split<;>exact key _ _))
 |(rw[aJ];rw[h];unfold ofN;split<;>exact key _ _)
theorem amA(x:Nat)(hx:x<18446744073709551616)(hk:yK x<3)(n:Nat)(hn:n≤1000):Fn 21 [.int .u64 (x:Int),.int .i64 (n:Int),.int .i64 1] (dT (adF (yS x).1.1 (yS x).1.2.1 (yS x).1.2.2 (n:Int))):=by
 intro H;have hdr:=qP x;have he0:(yS x).2=0:=by rw[bkP,aJ]
 refine .of_body func21 rfl ntmps21 results21 rfl ?_;iterate 2 refine AX ?_
 refine .al zr61 (λb6 hb6=>?_);iterate 6 refine AX ?_
 refine .cl rfl call47 (evs1 rfl) (beG x hx _) ?_;iterate 3 refine AX ?_
 refine .al zr61 (λb8 hb8=>?_);have hn6_8:=Heap.ne_of (oS _ _ _) hb8;iterate 4 refine AX ?_
 refine .frz (t:=8) rfl (hb8) ?_;iterate 7 refine AX ?_
 refine .cx rfl (λhc16=>?_) (λhc16=>?_)
 ·exact absurd he0 aB
 iterate 7 refine AX ?_
 refine .cl rfl call57 (evs3 rfl rfl rfl) (axT (yS x).1.1 (yS x).1.2.1 (yS x).1.2.2 hdr (n:Int) aA _) ?_;iterate 6 refine AX ?_
 refine .frz (t:=6) rfl (hb6) ?_;iterate 2 refine AX ?_
 exact⟨rfl,rfl⟩
theorem chU(m n:Nat):agV m n=(List.replicate m alC++[bnH])++List.replicate n alC:=by unfold agV;rw[bK];rfl
theorem biR(i:Nat)(z:ItN)(p:List ItN):(p++List.replicate i z).map ItN.av++[z.av]=(p++List.replicate (i+1) z).map ItN.av:=by rw[List.replicate_succ',←bK,eS (l₂:=[z])];rfl
def clK(x m n:Nat)(H:Heap):Nat→Env→Heap→Prop:=λk env H1=>∃(i t:Nat),i≤m∧env=[(2,.int .u64 (x:Int)),(8,.int .i64 (m:Int)),(9,.int .i64 (n:Int)),(10,itS ([]++List.replicate i alC) (.own t)),(11,.int .i64 (i:Int))]∧H.le H1∧H1.toks t=true∧H.toks t=false∧k=m-i
def clJ(x m n:Nat)(H:Heap):Nat→Env→Heap→Prop:=λk env H1=>∃(j t:Nat),j≤n∧env=[(2,.int .u64 (x:Int)),(8,.int .i64 (m:Int)),(9,.int .i64 (n:Int)),(10,itS ((List.replicate m alC++[bnH])++List.replicate j alC) (.own t)),(12,.int .i64 (j:Int))]∧H.le H1∧H1.toks t=true∧H.toks t=false∧k=n-j
theorem bhS(c0:Int)(hc0: -9223372036854775808≤c0∧c0≤9223372036854775807)(c1:Int)(hc1: -9223372036854775808≤c1∧c1≤9223372036854775807)(x:Nat)(hx:x<18446744073709551616)(H:Heap):ACall prog 7 [.int .i64 c0,.int .i64 c1,.int .u64 (x:Int)] H (λy H'=>y= .bool true∧H'=H):=by
 have hle0:=hRa H;refine ACall.of_body func7 rfl ntmps7 results7 rfl ?_;iterate 7 refine AX ?_
 refine .cl rfl call9 .nil (awF _) ?_;iterate 4 refine AX ?_
 refine AWP.seqTo 29 (.bool (decide ((3:Int)≤(yK x:Int)))) [0,1,2,6,7] ?_ ?_
 ·iterate 5 refine AX ?_
  refine .gs rfl rfl rfl aD (zB C17 (evs1 rfl) (aiB x hx _)) ?_;rintro _ _ ⟨rfl,hH⟩;obtain rfl:=hH.symm;iterate 3 refine AX ?_
  exact⟨rfl,zS rfl aD sX,rfl⟩
 refine AWP.sub [(29,_),(0,_),(1,_),(2,_),(6,_),(7,_)] sX ?_;refine AWP.cx rfl (λhc29=>?_) (λhc29=>?_)
 ·iterate 8 refine AX ?_
  refine Ret.go (.cons (.tmp _ _ rfl) .nil) _ (hle0) ?_;exact⟨rfl,rfl⟩
 have hk:yK x<3:=by omega
 have hka:yK (abZ x)<3:=by rw[akJ];exact hk
 iterate 5 refine AX ?_
 refine .s rfl (zB C19 (.cons (tm rfl) (.cons zJ .nil)) (ajV 20 aC c0 hc0 _)) ?_;rintro _ _ ⟨⟨a,ha,rfl⟩,hH⟩;obtain rfl:=hH.symm;refine .p rfl (.say (b:=.int .i64 ((a+1:Nat):Int)) (by(congr 1;omega)) (yZ zJ (tm rfl) aA)) ?_;iterate 6 refine AX ?_
 refine .s rfl (zB C19 (.cons (tm rfl) (.cons zJ .nil)) (ajV 20 aC c1 hc1 _)) ?_;rintro _ _ ⟨⟨n,hn,rfl⟩,hH⟩;obtain rfl:=hH.symm;obtain⟨m,hm⟩:∃m,a+1=m:=⟨_,rfl⟩;rw[hm];iterate 5 refine AX ?_
 refine .p rfl (zE (aeH (sz:=2) (tl:=.full))) ?_;iterate 9 refine AX ?_
 refine AWP.tag (t:=10) rfl (λu10 hu10=>?_);have hfu10:=Heap.fresh_of hle0 hu10;have hleu10:=Heap.le_in hle0 u10;refine AWP.loopW (clK x m n H) (m) ⟨0,u10,Nat.zero_le _,rfl,hleu10,Heap.toks_live_same _ _,hfu10,rfl⟩ sX (hRa _) ?_;rintro _ _ H1 ⟨i,t,hi,rfl,hle1,hlive,hfr,rfl⟩;iterate 8 refine AX ?_
 refine AWP.cx rfl (λhc38=>?_) (λhc38=>?_)
 ·iterate 6 refine AX ?_
  refine .p rfl (yU zr57 pl57 (.cons zJ (.inl rfl) (.cons (zO rfl) (.inl rfl) .nil)) rfl) (.e rfl (yJ U50 Z57 V57 rfl (tm rfl) (.inr ⟨_,rfl⟩) ⟨rfl,rfl⟩) ?_);refine .s rfl (qT U50 U50 Z57 typeInfo57 V57 rfl aC (tm rfl) (tm rfl) (by exact .own _ hlive) (by show(_+_)*24≤_;simp only[cE,aO,bE,aW,bG];omega) (by repeat' (first|exact zX _|exact qY|exact adD ⟨rfl,rfl⟩ qY|exact qO (zX _)|exact qN (zX _)|refine aaC ?_ ?_ |exact aqX _)) (by repeat' (first|exact zX _|exact qY|exact adD ⟨rfl,rfl⟩ qY|exact qO (zX _)|exact qN (zX _)|refine aaC ?_ ?_))) ?_;rintro _ _ ⟨t44,ht44,rfl,hH⟩;obtain rfl:=hH.symm;have hf44:=Heap.fresh_of hle1 ht44;have hle44:=Heap.le_in (Heap.le_out (t:=t) hle1 aB) t44;iterate 10 refine AX ?_
  refine Round.mk (J:=clK x m n H) ⟨i+1,t44,by omega,rfl,hle44,Heap.toks_live_same _ _,hf44,rfl⟩ (zK rfl (zK rfl (zK rfl (zR rfl (abB (biR i alC [])) (zK rfl yF))))) (hRa _) aA
 iterate 6 refine AX ?_
 obtain rfl:m=i:=by omega
 iterate 2 refine AX ?_
 refine .p rfl (yU zr57 pl57 (.cons zJ (.inl rfl) .nil) rfl) (.e rfl (yJ U50 Z57 V57 rfl (tm rfl) (.inr ⟨_,rfl⟩) ⟨rfl,rfl⟩) ?_);refine .s rfl (qT U50 U50 Z57 typeInfo57 V57 rfl aC (tm rfl) (tm rfl) (by exact .own _ hlive) (by show(_+_)*24≤_;simp only[cE,aO,bE,aW,bG];omega) (by repeat' (first|exact zX _|exact qY|exact adD ⟨rfl,rfl⟩ qY|exact qO (zX _)|exact qN (zX _)|refine aaC ?_ ?_ |exact aqX _)) (by repeat' (first|exact zX _|exact qY|exact adD ⟨rfl,rfl⟩ qY|exact qO (zX _)|exact qN (zX _)|refine aaC ?_ ?_))) ?_;rintro _ _ ⟨t48,ht48,rfl,hH⟩;obtain rfl:=hH.symm;have hf48:=Heap.fresh_of hle1 ht48;have hle48:=Heap.le_in (Heap.le_out (t:=t) hle1 aB) t48;iterate 10 refine AX ?_
 refine AWP.loopW (clJ x m n H) (n) ⟨0,t48,Nat.zero_le _,rfl,hle48,Heap.toks_live_same _ _,hf48,rfl⟩ (zK rfl (zK rfl (zK rfl (zR rfl (abB (by rw[List.replicate_zero,bU,cH,eS];rfl)) (zK rfl yF))))) (hRa _) ?_;rintro _ _ H1 ⟨j,t2,hj,rfl,hle2,hlive2,hfr2,rfl⟩;iterate 8 refine AX ?_
 refine AWP.cx rfl (λhc51=>?_) (λhc51=>?_)
 ·iterate 6 refine AX ?_
  refine .p rfl (yU zr57 pl57 (.cons zJ (.inl rfl) (.cons (zO rfl) (.inl rfl) .nil)) rfl) (.e rfl (yJ U50 Z57 V57 rfl (tm rfl) (.inr ⟨_,rfl⟩) ⟨rfl,rfl⟩) ?_);refine .s rfl (qT U50 U50 Z57 typeInfo57 V57 rfl aC (tm rfl) (tm rfl) (by exact .own _ hlive2) (by show(_+_)*24≤_;simp only[cE,aO,bE,aW,bG];omega) (by repeat' (first|exact zX _|exact qY|exact adD ⟨rfl,rfl⟩ qY|exact qO (zX _)|exact qN (zX _)|refine aaC ?_ ?_ |exact aqX _)) (by repeat' (first|exact zX _|exact qY|exact adD ⟨rfl,rfl⟩ qY|exact qO (zX _)|exact qN (zX _)|refine aaC ?_ ?_))) ?_;rintro _ _ ⟨t57,ht57,rfl,hH⟩;obtain rfl:=hH.symm;have hf57:=Heap.fresh_of hle2 ht57;have hle57:=Heap.le_in (Heap.le_out (t:=t2) hle2 aB) t57;iterate 10 refine AX ?_
  refine Round.mk (J:=clJ x m n H) ⟨j+1,t57,by omega,rfl,hle57,Heap.toks_live_same _ _,hf57,rfl⟩ (zK rfl (zK rfl (zK rfl (zR rfl (abB (biR j alC _)) (zK rfl yF))))) (hRa _) aA
 iterate 6 refine AX ?_
 obtain rfl:n=j:=by omega
 refine AWP.weakv (itS ((List.replicate m alC++[bnH])++List.replicate n alC) .shared) (t:=10) rfl (.slice _ _ _) ?_;rw[←chU];refine AX ?_;refine .cl rfl C20 (.cons (zO rfl) .nil) (akE (l:=enL) mEn _) ?_;iterate 3 refine AX ?_
 refine .al zr32 (λb13 hb13=>?_);iterate 4 refine AX ?_
 refine AWP.frz (t:=13) rfl (hb13) ?_;refine AX ?_;have hfd:=factsD ha hn;rw[hm]at hfd;have hab:=bdE x;have hay:abZ x<9223372036854775808:=by unfold abZ;omega
 have hnum:=ayG aA aA hfd hay hka;have hdr:=qP (abZ x);have hdn:=ccF (cjC x) hka;have hsm:∀q,q∈[(⟨agV m n,false,0⟩:SecN)]→q.items.length≤1000:=λq hq=>by rw[eU.1 hq];show(agV m n).length≤1000;rw[bjY];omega
 obtain⟨D,hD⟩:∃D,yL (yS (abZ x)).1.1 (yS (abZ x)).1.2.1 (yS (abZ x)).1.2.2 (n:Int)=D:=⟨_,rfl⟩;rw[hD]at hnum;have hDr:yE D.2.1 D.2.2=true:=by rw[←hD];exact aaD hdr
 have hDx:D.2.1=[]∨ -(n:Int)≤D.2.2:=by rw[←hD];exact acW hdr
 have hDn:D.1=false:=by rw[←hD,hdn];exact blZ
 obtain⟨hb1,hb2,hb3⟩:=alO (m:=m) aA hDr hDx;have hdg:=biG (n:=n) hDr m;obtain⟨hRl,_⟩:=aiA hDr hDx;have hpt:zU D.2.1 D.2.2≤4001:=by have h1:=agI (neg:=(yS (abZ x)).1.1) hdr (show(0:Int)≤n by omega);rw[hD]at h1;have:=(ajF hka).2;omega
 have hSl:(abJ D n).1.length≤4001:=by have:=ajN D.2.1 (zU D.2.1 D.2.2) n;unfold abJ;omega
 generalize(abJ D n).1=S1 at *;generalize(abJ D n).2=R at *;generalize amO S1 true m=W at *;have hdrop:(W++46::R).drop (W.length+1)=R:=by rw[fF];simp
 have hWl:W.length≤5000:=by omega
 have hb1f:mkN false (W++R) (-(n:Int))=(D,0):=by rw[←hDn];exact hb1
 have hn1:=congrArg Prod.fst hnum;have hn2:=congrArg Prod.snd hnum;have hn1:(abW enL [⟨agV m n,false,0⟩] (abZ x)).1=W++46::R:=hn1;have hn2:(abW enL [⟨agV m n,false,0⟩] (abZ x)).2=0:=hn2;iterate 2 refine AX ?_
 refine .p rfl (yY [(0,1),(1,1),(2,1)] U52 V52 (zr52) rfl (pl52 _ U52) (.cons (tm rfl) (.inl rfl) .nil) rfl) (.e rfl (yJ U22 Z52 V52 rfl (tm rfl) (.inr ⟨_,rfl⟩) ⟨rfl,rfl⟩) (.p rfl (yU zr24 pl24 (.cons (tm rfl) (.inl rfl) .nil) rfl) ?_));iterate 3 refine AM ?_
 refine .cl rfl call12 (evs3 rfl rfl rfl) (ajH [⟨agV m n,false,0⟩] _ hsm (abZ x) hab enL (asF _ mEn) (axI _ mEn) _) ?_;rw[hn1,hn2];iterate 12 refine AM ?_
 refine .cl rfl call21 (.cons (tm rfl) (.cons (tm rfl) (.cons zJ .nil))) (amA (abZ x) hab hka n aA _) ?_;iterate 3 refine AX ?_
 refine .al zr61 (λb17 hb17=>?_);iterate 4 refine AX ?_
 refine AWP.frz (t:=17) rfl (hb17) ?_;iterate 2 refine AX ?_
 rw[show(adF (yS (abZ x)).1.1 (yS (abZ x)).1.2.1 (yS (abZ x)).1.2.2 (n:Int)).1=D from hD];iterate 14 refine AX ?_
 refine AWP.cx rfl (λhc90=>?_) (λhc90=>?_)
 ·exact absurd hc90 (by simp only[aO,aW];omega)
 iterate 7 refine AX ?_
 refine .p rfl (.say (b:=.int .i64 ((W.length+1:Nat):Int)) (by(congr 1;simp only[aO,aW];omega)) (qK (tm rfl) (tm rfl) (by simp only[aO,aW];omega))) ?_;refine .p rfl (.say (b:=.int .i64 ((W.length:Nat):Int)) (by(congr 1;omega)) (qK (tm rfl) zJ aA)) ?_;iterate 4 refine AX ?_
 refine AWP.draw2 [(0,true),(1,true),(2,true),(3,true),(4,true),(5,true),(6,true),(7,true),(8,true),(9,true)] 10 14 [(11,true),(12,true),(13,true),(14,false),(15,false),(16,true)] [(10,false),(11,true),(12,true),(13,true),(15,false),(16,true)] rfl aE ?_;iterate 2 refine AX ?_
 refine .p rfl rfl (.say (b:=.str (W)) (by rw[dZ,List.take_left]) (agP U9 (tm rfl) (tm rfl) aA (by simp only[aO,aW];omega))) ?_;iterate 3 refine AX ?_
 refine .p rfl rfl (.say (b:=.str (R)) (by rw[show((W.length:Int)+1).toNat=W.length+1 by omega,hdrop]) (agO U9 (tm rfl) (tm rfl) aA (by simp only[aO,aW];omega))) ?_;refine .p rfl rfl (zY (tm rfl) (tm rfl) (by rw[zQ];omega)) ?_;iterate 3 refine AX ?_
 refine⟨?_,?_⟩
 ·refine XTwo.s rfl rfl (zB C22 (.cons zT (evs2 rfl rfl)) (acQ false (W++R) (-(n:Int)) hdg (by rw[aO];omega) aA _)) ?_;rintro _ _ ⟨rfl,hH⟩;obtain rfl:=hH.symm;iterate 3 refine AX ?_
  refine .s rfl rfl (adL zr61) ?_;rintro _ _ ⟨b20,hb20,rfl,hH⟩;obtain rfl:=hH.symm;refine .s0 rfl (zL Z61 (tm rfl) (tm rfl) rfl rfl (.inr ⟨_,rfl⟩) (oS _ _ _) (lB rfl)) ?_;rintro _ _ ⟨rfl,hH⟩;obtain rfl:=hH.symm;try first|rw[sS]|rw[sU aB]
  iterate 3 refine AX ?_
  refine AWP.frz (t:=20) rfl (hb20) ?_;refine AX ?_;rw[hb1f];have k113:decide (((((W++46::R).getD ((W.length:Nat):Int).toNat 0).toNat:Nat):Int)=46)=true:=aU (by rw[dZ,aP,cY (aZ _),Nat.sub_self];rfl);have kT0:(W++46::R).getD 0 0=W.getD 0 0:=by rw[aP,aP,cV aA]
  iterate 3 refine AX ?_
  refine .p rfl (qQ U9 (tm rfl) (tm rfl) aA (by(simp only[aO,aW];omega))) ?_;iterate 3 refine AM ?_
  iterate 5 refine AX ?_
  refine .gp rfl rfl rfl aD (amL eqGuardType61 (tm rfl) (tm rfl) (eqD D)) ?_;iterate 6 refine AX ?_
  refine zD (t:=127) rfl (λhg127=>?_) (λhg127=>?_)
  ·have hh127:=hg127;try simp only[aL]at hh127
   iterate 9 refine AX ?_
   refine Ret.go (.cons (.tmp _ _ rfl) .nil) _ (hle2) ?_;exact⟨rfl,rfl⟩
  have hh127:=hg127;try simp only[aL]at hh127
  iterate 2 refine AX ?_
  iterate 7 refine AM ?_
  refine Ret.go (.cons (.tmp _ _ rfl) .nil) _ (hle2) ?_;refine⟨congrArg AV.bool (aU (λq=>?_)),rfl⟩;have h48:(W.getD 0 0).toNat=48:=by rw[←kT0];exact Int.ofNat.inj q
  exact hb3 aA (fK.1 h48)
 refine XTwo.s rfl rfl (adL zr61) ?_;rintro _ _ ⟨b20,hb20,rfl,hH⟩;obtain rfl:=hH.symm;refine .s rfl rfl (zB C22 (.cons zT (evs2 rfl rfl)) (acQ false (W++R) (-(n:Int)) hdg (by rw[aO];omega) aA _)) ?_;rintro _ _ ⟨rfl,hH⟩;obtain rfl:=hH.symm;iterate 3 refine AX ?_
 refine .s0 rfl (zL Z61 (tm rfl) (tm rfl) rfl rfl (.inr ⟨_,rfl⟩) (oS _ _ _) (lB rfl)) ?_;rintro _ _ ⟨rfl,hH⟩;obtain rfl:=hH.symm;try first|rw[sS]|rw[sU aB]
 iterate 3 refine AX ?_
 refine AWP.frz (t:=20) rfl (hb20) ?_;refine AX ?_;rw[hb1f];have k113:decide (((((W++46::R).getD ((W.length:Nat):Int).toNat 0).toNat:Nat):Int)=46)=true:=aU (by rw[dZ,aP,cY (aZ _),Nat.sub_self];rfl);have kT0:(W++46::R).getD 0 0=W.getD 0 0:=by rw[aP,aP,cV aA]
 iterate 3 refine AX ?_
 refine .p rfl (qQ U9 (tm rfl) (tm rfl) aA (by(simp only[aO,aW];omega))) ?_;iterate 3 refine AM ?_
 iterate 5 refine AX ?_
 refine .gp rfl rfl rfl aD (amL eqGuardType61 (tm rfl) (tm rfl) (eqD D)) ?_;iterate 6 refine AX ?_
 refine zD (t:=127) rfl (λhg127=>?_) (λhg127=>?_)
 ·have hh127:=hg127;try simp only[aL]at hh127
  iterate 9 refine AX ?_
  refine Ret.go (.cons (.tmp _ _ rfl) .nil) _ (hle2) ?_;exact⟨rfl,rfl⟩
 have hh127:=hg127;try simp only[aL]at hh127
 iterate 2 refine AX ?_
 iterate 7 refine AM ?_
 refine Ret.go (.cons (.tmp _ _ rfl) .nil) _ (hle2) ?_;refine⟨congrArg AV.bool (aU (λq=>?_)),rfl⟩;have h48:(W.getD 0 0).toNat=48:=by rw[←kT0];exact Int.ofNat.inj q
 exact hb3 aA (fK.1 h48)
end
end Go.Proofs.YteedncdcbgplfaaGreatDoor
