import Derived.Test.YteedncdcbgplfaaGreatDoorJB
set_option maxHeartbeats 1000000
namespace Go.Proofs.YteedncdcbgplfaaGreatDoor
open Go.Proofs.Tryz
open Go Go.RowKit
variable{k m most:Nat}{l:List ItN}{neg:Bool}{ds:List UInt8}
section
set_option maxRecDepth 100000
theorem bhK(x y c:Nat)(hx:x<4294967296)(hy:y<4294967296)(hc:c≤1)(H:Heap):ACall prog 253 [.int .u32 (x:Int),.int .u32 (y:Int),.int .u32 (c:Int)] H (λz H'=>z= .tuple [.int .u32 (((x+8589934592-y-c)%4294967296:Nat):Int),.int .u32 ((if x<y+c then 1 else 0:Nat):Int)]∧H'=H):=by
 have hA:∀a b:Nat,b<4294967296→a&&&b<4294967296:=λa b h=>Nat.and_lt_two_pow (n:=32) a h;refine .of_body func253 rfl ntmps253 results253 rfl ?_;iterate 10 refine AM ?_
 refine .p rfl (arN (tm rfl) (tm rfl) aA) ?_;refine AX ?_;refine .p rfl (arN (tm rfl) (tm rfl) aA) ?_;iterate 6 refine AX ?_
 refine .p rfl (avN (tm rfl) aA) ?_;refine AX ?_;refine .p rfl (ajU (tm rfl) (tm rfl) aA aB) ?_;iterate 2 refine AX ?_
 refine .p rfl (bmS (tm rfl) (tm rfl) aB aB) ?_;refine .p rfl (avN (tm rfl) (Nat.xor_lt_two_pow (n:=32) hx hy)) ?_;refine AX ?_;refine .p rfl (ajU (tm rfl) (tm rfl) aA aA) (.p rfl (bbI (tm rfl) (tm rfl) (by exact hA _ _ aA) (by exact hA _ _ aA)) ?_);refine .p rfl (anU (tm rfl) (yB 31) (by exact Nat.or_lt_two_pow (n:=32) (hA _ _ aA) (hA _ _ aA))) ?_;iterate 5 refine AX ?_
 refine⟨?_,rfl⟩;simp only[yT];have hd:((x+(4294967296-y))%4294967296+(4294967296-c))%4294967296=(x+8589934592-y-c)%4294967296:=by omega
 rw[show(2:Nat)^31=2147483648 by decide,borrow32 hx hy hc hd,hd]
def cjO(P Q:Nat)(b:Nat)(H:Heap):Nat→Env→Heap→Prop:=λk env H1=>∃(i c:Nat)(zs:List Nat),i≤(zF P).length∧zs.length=(zF P).length∧Limbs zs∧c≤1∧val (zs.take i)+val ((zF Q).take i)=val ((zF P).take i)+4294967296^i*c∧env=[(0,qX P),(1,qX Q),(6,.mslice (some ⟨b,0,none⟩) (zF P).length (zF P).length),(7,.int .u32 (c:Int)),(28,.int .i64 ((zF P).length:Int)),(29,.int .i64 (i:Int))]∧H1=H.set b (.box 210 (U .u32 zs))∧k=(zF P).length-i
theorem subB(P Q:Nat)(hx:P<BIG)(hq:Q≤P):Fn 187 [qX P,qX Q] (.tuple [qX (P-Q),.int .i64 0]):=by
 intro H;have ha256:=yM hx;have hb256:=yM (bA hq hx);have hva:=zN P;have hvb:=zN Q;refine .of_body func187 rfl ntmps187 results187 rfl ?_;iterate 3 refine AM ?_
 iterate 9 refine AX ?_
 refine .e rfl (aeT U314 Z159 V159 rfl (tm rfl) (.inl rfl) ⟨rfl,rfl⟩ (tm rfl) (.inl rfl) ⟨rfl,rfl⟩) (.cl rfl C193 (evs1 rfl) (aiE _ _ (zH _) aA _ _ _ (zH _) aA _) ?_);iterate 3 refine AX ?_
 refine .cx rfl (λhc10=>?_) (λhc10=>?_)
 ·omega
 iterate 4 refine AX ?_
 refine .cl rfl call189 (evs2 rfl rfl) (cmpB P Q hx aA _) ?_;iterate 4 refine AX ?_
 refine .cx rfl (λhc15=>?_) (λhc15=>?_)
 ·have:=bwM hc15;omega
 iterate 6 refine AX ?_
 refine .cl rfl C194 (evs1 rfl) (cutB P aA _) ?_;refine AX ?_;refine .cl rfl C194 (evs1 rfl) (cutB Q aA _) ?_;iterate 8 refine AX ?_
 refine .s rfl (yQ ((zF P).length) U159 typeInfo210 Z210 V210 (tm rfl) (tm rfl) aA aA aC aA) ?_;rintro _ _ ⟨b26,rfl,hb26,hH⟩;obtain rfl:=hH.symm;iterate 13 refine AM ?_
 iterate 4 refine AX ?_
 refine .loopW (cjO P Q b26 H) ((zF P).length) ⟨0,0,List.replicate (zF P).length 0,Nat.zero_le _,by simp,Limbs.rep aA,by omega,rfl,rfl,rfl,rfl⟩ sX (hRa _) ?_;rintro _ _ _ ⟨i,c,zs,hi,hz,hzl,hc,hv,rfl,rfl,hk⟩;have hgp:=Limbs.getD (zH P) i;have hgq:=Limbs.getD (zH Q) i;iterate 6 refine AX ?_
 refine .cx rfl (λhc30=>?_) (λhc30=>?_)
 ·iterate 15 refine AM ?_
  refine .seqToL [(9,.int .u32 (((zF Q).getD i 0:Nat):Int))] [0,1,6,7,28,29,8] ?_ ?_
  ·iterate 8 refine AX ?_
   refine .cx rfl (λhc35=>?_) (λhc35=>?_)
   ·iterate 3 refine AX ?_
    refine .p rfl (zV (i) U159 Z210 (tm rfl) (tm rfl) aA aA) ?_;iterate 3 refine AX ?_
    exact⟨rfl,(zR rfl aD sX),rfl⟩
   refine AX ?_;exact⟨rfl,(zR rfl (by(rw[aeX aA])) sX),rfl⟩
  refine .sub [(9,_),(0,_),(1,_),(6,_),(7,_),(28,_),(29,_),(8,_)] sX ?_;iterate 5 refine AX ?_
  refine .p rfl (zV (i) U159 Z210 (tm rfl) (tm rfl) aA aA) ?_;iterate 3 refine AX ?_
  refine .cl rfl call253 (evs3 rfl rfl rfl) (bhK _ _ _ aB aB aA _) ?_;iterate 3 refine AX ?_
  refine .p rfl (yG (i) U159 Z210 (tm rfl) (tm rfl) aA aA) (.e0 (qE Z210 (tm rfl) (tm rfl) (oS _ _ _) aA) ?_);try first|rw[sS]|rw[sU aB]
  iterate 9 refine AX ?_
  refine Round.mk ⟨i+1,_,_,by omega,by simpa using hz,Limbs.set hzl aA,by split<;>omega,byD aA hgp hgq hc hv,rfl,rfl,rfl⟩ sX (hRa _) aA
 iterate 6 refine AX ?_
 have hi2:i=(zF P).length:=by omega
 subst hi2;have hv2:=cfU hz hzl rfl hq hc hv;refine .frzU (t:=6) rfl hb26 aA (aZ _) (by simp only[zQ];omega) ?_;rw[aY aA];iterate 2 refine AX ?_
 refine .cl rfl C194 (evs1 rfl) (aaG zs .shared hzl aA _) ?_;iterate 6 refine AX ?_
 refine⟨?_,rfl⟩;rw[hv2];rfl
def bqI(n:Nat)(H:Heap):Nat→Env→Heap→Prop:=λk env H1=>∃i:Nat,i≤(zF n).length∧env=[(0,qX n),(4,.int .u64 ((val ((zF n).take i):Nat):Int)),(12,.int .i64 ((zF n).length:Int)),(13,.int .i64 (i:Int))]∧H=H1∧k=(zF n).length-i
theorem valueB(n:Nat)(hn:n<18446744073709551616):Fn 191 [qX n] (.tuple [.int .u64 (n:Int),.bool true]):=by
 intro H;have hl2:(zF n).length≤2:=qH.2 (by rw[show(4294967296:Nat)^2=18446744073709551616 by decide];exact hn);refine .of_body func191 rfl ntmps191 results191 rfl ?_;iterate 9 refine AM ?_
 refine .cl rfl C194 (evs1 rfl) (cutB n aA _) ?_;iterate 13 refine AM ?_
 iterate 3 refine AX ?_
 refine .cx rfl (λhc10=>?_) (λhc10=>?_)
 ·omega
 iterate 11 refine AX ?_
 refine .loopW (bqI n H) ((zF n).length) ⟨0,Nat.zero_le _,rfl,rfl,rfl⟩ sX (hRa _) ?_;rintro _ _ _ ⟨i,hi,rfl,rfl,hk⟩;iterate 6 refine AX ?_
 refine .cx rfl (λhc14=>?_) (λhc14=>?_)
 ·obtain⟨hs1,hs2,hs3⟩:=blH (zH n) hl2 (i:=i) aA;have hs4:(zF n).getD i 0<18446744073709551616:=eG (Limbs.getD (zH n) i) aC;iterate 14 refine AX ?_
  refine .p rfl (zV (i) U159 Z210 (tm rfl) (tm rfl) aA aA) ?_;refine AX ?_;refine .p rfl (qD U210 U25 (tm rfl) (wrapN64 aB)) ?_;refine AX ?_;refine .p rfl (.say (b:=.int .i64 ((32*i:Nat):Int)) (by congr 1<;>omega) (axX (zJ) (tm rfl) aA)) ?_;refine .p rfl (qZ (tm rfl) (tm rfl) aA (by exact hs3)) (.p rfl (abK (tm rfl) (tm rfl) aB aB) ?_);iterate 9 refine AX ?_
  refine Round.mk ⟨i+1,by omega,rfl,rfl,rfl⟩ (zK rfl (zR rfl (by rw[hs1]) sX)) (hRa _) aA
 iterate 14 refine AX ?_
 refine⟨?_,rfl⟩;rw[aY aA,zN];rfl
end
def agR(r unit p q:Nat):Nat:=if r*q<unit*p then unit*p-r*q else r*q-unit*p
def tryN(r unit:Nat)(st:Nat×Nat)(p q:Nat):Nat×Nat:=if agR r unit p q*st.2<agR r unit st.1 st.2*q then(p,q)else st
def bsN(r unit:Nat)(st:Nat×Nat)(q:Nat):Nat×Nat:=tryN r unit (tryN r unit st (r*q/unit) q) (r*q/unit+1) q
def qR(r unit:Nat):Nat→Nat×Nat
 |0=>(0,1)
 |n+1=>bsN r unit (qR r unit n) (n+1)
def abT(r unit most:Nat):Nat×Nat×Nat:=if qR r unit most=(1,1)then(1,0,1)else(0,(qR r unit most).1,(qR r unit most).2)
theorem btK{r unit q:Nat}:agR r unit (r*q/unit) q=r*q-r*q/unit*unit:=by
 unfold agR;have:=eZ (r*q) unit;rw[bM unit,aJ]
theorem bzZ{r unit q:Nat}(hu:0<unit):agR r unit (r*q/unit+1) q=unit-(r*q-r*q/unit*unit):=by
 unfold agR;have h1:=eZ (r*q) unit;have h2:=Nat.lt_div_mul_add (a:=r*q) hu;have h3:unit*(r*q/unit+1)=r*q/unit*unit+unit:=by rw[cB,bM,fB]
 rw[h3,aK];omega
theorem btJ(r unit:Nat):agR r unit 0 1=r:=by unfold agR;simp
theorem bxV{r unit p q:Nat}{st:Nat×Nat}(h:(p,q)=st):tryN r unit st p q=st:=by
 subst h;unfold tryN;rw[aM aF]
theorem bhY{r unit p q:Nat}{st:Nat×Nat}:(tryN r unit st p q).2=q∨(tryN r unit st p q).2=st.2:=by
 unfold tryN;split
 ·exact .inl rfl
 exact .inr rfl
theorem avJ(r unit n:Nat):1≤(qR r unit n).2∧(qR r unit n).2≤max 1 n:=by
 induction n with
 |zero=>exact⟨aZ _,aZ _⟩
 |succ n ih=>
  rw[qR,bsN];rcases bhY (r:=r) (unit:=unit) (p:=r*(n+1)/unit+1) (q:=n+1) (st:=tryN r unit (qR r unit n) (r*(n+1)/unit) (n+1))with h|h
  ·rw[h];omega
  rw[h];rcases bhY (r:=r) (unit:=unit) (p:=r*(n+1)/unit) (q:=n+1) (st:=qR r unit n)with h|h<;>rw[h]<;>omega
theorem avI{r unit:Nat}(hr:r<unit)(n:Nat):(qR r unit n).1≤(qR r unit n).2:=by
 have lt:∀q,1≤q→r*q/unit+1≤q:=λq hq=>Nat.div_lt_of_lt_mul (dE hr aA);induction n with
 |zero=>exact Nat.zero_le _
 |succ n ih=>
  have h1:=lt (n+1) aA;have key:∀(st:Nat×Nat)(p q:Nat),p≤q→st.1≤st.2→(tryN r unit st p q).1≤(tryN r unit st p q).2:=λst p q h h2=>by
   unfold tryN;split
   ·exact h
   exact h2
  rw[qR,bsN];exact key _ _ _ h1 (key _ _ _ aA ih)
section
open Go Go.RowKit
set_option maxRecDepth 100000
theorem ckO(r unit p q:Nat):agR r unit p q≤max (r*q) (unit*p):=by unfold agR;split<;>omega
theorem aiW(a q:Nat)(ha:a<BIG)(hq:q≤100000)(hqB:q<BIG)(hb:a*q<BIG):Fn 190 [qX a,.int .i64 (q:Int)] (qX (a*q)):=by
 intro H;refine .of_body func190 rfl ntmps190 results190 rfl ?_;iterate 9 refine AX ?_
 refine .p rfl (qD U3 U25 (tm rfl) (wrap64 aA aA)) (.cl rfl C93 (evs1 rfl) (aeA q aA _) (.cl rfl C106 (evs2 rfl rfl) (mulB a q ha hqB hb _) ?_));iterate 15 refine AX ?_
 exact⟨rfl,rfl⟩
end
theorem bxJ:∃k:Nat,k=2500∧BIG<10^k:=⟨2500,rfl,by unfold BIG;decide+kernel⟩
theorem bgG(ds:List UInt8):(akP ds).length≤ds.length:=asS _ _
theorem buB(ds:List UInt8):adT ds≤ds.length:=by unfold adT;have:=bgG ds;omega
theorem btN(neg:Bool){e:Int}(hm:m<18014398509481984)(he: -1075≤e∧e≤972): -1075≤(ofN neg m e).2.2∧(ofN neg m e).2.2≤2500:=by
 obtain⟨K,hK,hB⟩:=bxJ;have h1:=btM hm he;have h2:(dec (ofR m e)).length≤K:=(afX aA).2 (eG h1 hB);have h3:=buB (dec (ofR m e));have h4: -1075≤ofX m e∧ofX m e≤0:=by
  unfold ofX;have:=(alX (-e).toNat m).2;split<;>omega
 rw[btO];unfold mkN;split
 ·simp
 split
 ·simp only;omega
 simp
theorem byH{x:Nat}(hk:yK x<3):(axD x 15).2=0∧ -2000≤(axD x 15).1.2.2∧(axD x 15).1.2.2≤5000:=by
 have hm:=acN x;have hp:=aaZ x;have he:=btN (alN x) (m:=yA x) (e:=zP x) aA hp;have hr:=amQ (alN x) (yA x) (zP x);have hl:=(yX hr).1;unfold axD;rw[aJ];unfold yS;rw[aJ];generalize ofN (alN x) (yA x) (zP x)=o at *;obtain⟨ng,ds,e⟩:=o
 dsimp only at he hr hl ⊢
 unfold cfY;split
 ·exact⟨rfl,by show-2000≤e;omega,by show e≤5000;omega⟩
 rename_i hlen
 unfold bpC;have hs:∀s:List UInt8,s.length≤16→(mkN ng s (e+ds.length-15)).2=0∧ -2000≤(mkN ng s (e+ds.length-15)).1.2.2∧(mkN ng s (e+ds.length-15)).1.2.2≤5000:=by
  intro s hs;have h1:=buB s;have h2:(abE s).length≤s.length:=bC (afK _ _) (bgG s);unfold mkN;split
  ·simp
  split
  ·exact⟨rfl,by show-2000≤e+(ds.length:Int)-15+(adT s:Int);omega,by show e+(ds.length:Int)-15+(adT s:Int)≤5000;omega⟩
  rename_i h;exact absurd (show okD s (e+ds.length-15)from⟨by omega,by omega,by omega⟩) h
 refine hs _ ?_;split
 ·refine bC (akB _) ?_;rw[aV];omega
 rw[aV];omega
theorem ciA{l:Loc}(hk:l.ok){e:Int}(hr:yE ds e=true)(hlen:ds.length≤16)(he: -2000≤e∧e≤5000):(bxP l ((neg,ds,e),0)).length≤900:=by
 obtain⟨h1,h2,h3,h4,h5⟩:=hk;have hm:(if neg=true then l.minus else []).length≤10:=by split;exact h3;simp
 unfold bxP;simp only[ne_eq,not_true_eq_false,if_false];have hp9:=he;split
 ·rename_i hp
  have hp2:(ds.length:Int)+e≤15∧ -4≤(ds.length:Int)+e:=by
   rcases hp with rfl|hp
   ·have:e=0:=by simpa[yE]using hr
    subst this;exact⟨by simp,by simp⟩
   exact⟨hp.2,hp.1⟩
  have hs:(abF ds ((ds.length:Int)+e)).1.1.length≤100∧(abF ds ((ds.length:Int)+e)).1.2.length≤100:=by
   unfold abF;split
   ·simp
   split
   ·simp only[aW,bG,aO,bE];omega
   split
   ·simp only[bG,aO,bE];omega
   simp only[aV,bO];omega
  have h6:(if(abF ds ((ds.length:Int)+e)).1.2=[]then []else l.dc++(abF ds ((ds.length:Int)+e)).1.2).length≤110:=by
   by_cases q:(abF ds ((ds.length:Int)+e)).1.2=[]
   ·rw[aN q];simp
   rw[aM q,aO];omega
  unfold akR;by_cases q:(abF ds ((ds.length:Int)+e)).2=true
  ·rw[aN q,aO,aO];omega
  rw[aM q];simp
 have hd:(dec (bkL ((ds.length:Int)+e))).length≤8:=(afX aC).2 (by unfold bkL;split<;>omega);have h0:(if(dec (bkL ((ds.length:Int)+e))).length<2 then([48]:List UInt8)else []).length≤1:=by split<;>simp
 have h6:(if(1:Int)<(ds.length:Int)then l.dc++ds.drop 1 else []).length≤110:=by
  by_cases q:(1:Int)<(ds.length:Int)
  ·rw[aN q,aO,bO];omega
  rw[aM q];simp
 unfold bbY;simp only[aO,aW,bG,aV];omega
theorem baN{l:Loc}(hk:l.ok){x:Nat}(hx:yK x<3):(bxP l (axD x 15)).length≤900:=by
 obtain⟨h1,h2,h3⟩:=byH hx;have hr:=auS x 15;have hl2:=biF x 15;generalize hs:axD x 15=s at *;obtain⟨⟨ng,ds,e⟩,er⟩:=s
 dsimp only at h1 h2 h3 hr hl2 ⊢
 subst h1;exact ciA hk hr aA ⟨h2,h3⟩
def ajC(l:List ItN):Nat→Nat
 |0=>0
 |k+1=>if abS l k=2 then ajC l k else k+1
theorem cbP(l:List ItN)(k:Nat):ajC l k≤k:=by
 induction k with
 |zero=>exact aZ _
 |succ k ih=>rw[ajC];split<;>omega
def abZ(x:Nat):Nat:=x%9223372036854775808
def aaB(l:List ItN):Nat:=zZ l [6]
def aiN(l:List ItN):List Nat:=agW l (aaB l) l.length
def chA(l:List ItN):List Nat:=agW l (ajC l (aaB l)) (aaB l)
def atS(l:List ItN):List Nat:=agW l 0 (ajC l (aaB l))
def anZ(l:List ItN):Nat:=10^(aiN l).length-1
def akO(x most:Nat):(Bool×List UInt8×Int)×Nat×Nat:=
 if 0≤zP x then(ofN (alN x) (yA x) (zP x),0,1)
 else(ofN (alN x) (yA x/2^(-zP x).toNat+(abT (yA x%2^(-zP x).toNat) (2^(-zP x).toNat) most).1) 0,(abT (yA x%2^(-zP x).toNat) (2^(-zP x).toNat) most).2)
def apJ(d:Bool×List UInt8×Int):List UInt8:=(abJ d 0).1
def ciR(n:Nat):List UInt8:=if n=0 then []else dec n
def bxY(r:(Bool×List UInt8×Int)×Nat×Nat):Nat:=num (48::apJ r.1)*r.2.2+r.2.1
def aqB(a b:Nat)(q:List Pc):List Pc:=q.mapIdx λj p=>if a≤j∧j<b then .fx []else p
def auB(l:List ItN)(gr:Bool)(o:Loc)(r:(Bool×List UInt8×Int)×Nat×Nat)(q:List Pc):List Pc:=
 if(atS l).length=0 then acF l (aaS o gr) (ciR (bxY r)) true false (chA l) (q.set ((aiN l).getD 0 0) (.fx (dec r.2.2)))
 else if r.2.1=0 then aqB ((atS l).getD ((atS l).length-1) 0+1) ((aiN l).getD ((aiN l).length-1) 0+1) (acF l (aaS o gr) (apJ r.1) true false (atS l) (q.set ((aiN l).getD 0 0) (.fx (dec r.2.2))))
 else acF l (aaS o gr) (dec r.2.1) true false (chA l) (acF l (aaS o gr) (apJ r.1) true false (atS l) (q.set ((aiN l).getD 0 0) (.fx (dec r.2.2))))
def boH(l:List ItN)(r:(Bool×List UInt8×Int)×Nat×Nat):Bool:=
 if(atS l).length=0 then decide (ciR (bxY r)≠[])||decide (apJ r.1≠[])
 else if r.2.1=0 then decide (apJ r.1≠[])else true
def abM(o:Loc)(s:SecN)(x:Nat):List Pc×Bool:=
 if yH s=6 then(bdP s.items 8 (bxP o (axD x 15)) s.items.length (s.items.map (aeL o)),false)
 else if yH s=5 then(bdP s.items 7 (bxP o (axD (abZ x) 15)) s.items.length (s.items.map (aeL o)),decide (bxP o (axD (abZ x) 15)≠[48]))
 else if yH s=2∨yH s=3 then(bdO s.items s.grouped s.scale o (yS (abZ x)).1.1 (yS (abZ x)).1.2.1 (yS (abZ x)).1.2.2 (s.items.map (aeL o)),decide ((apE s.items s.scale (yS (abZ x)).1.1 (yS (abZ x)).1.2.1 (yS (abZ x)).1.2.2).2.1≠[]))
 else if yH s=4 then(auB s.items s.grouped o (akO (abZ x) (anZ s.items)) (s.items.map (aeL o)),boH s.items (akO (abZ x) (anZ s.items)))
 else(s.items.map (aeL o),false)
def abW(o:Loc)(p:List SecN)(x:Nat):List UInt8×Int:=
 if aeP p=false then([],12)else if 3≤yK x then([],11)
 else((if(abM o (blV p x) x).2=true∧x/9223372036854775808=1∧p.length=1 then o.minus else [])++afY (abM o (blV p x) x).1,0)
/-! ### how long it may be -/
theorem byV{mk:Nat→List UInt8}(h:∀k,(mk k).length≤m)(s:List UInt8)(last:Nat):(ajQ mk s last).length≤s.length*(m+1):=by
 induction s with
 |nil=>exact Nat.zero_le _
 |cons x r ih=>
  have:=h (last+r.length);rw[ajQ,aO,aW,aW,bY];omega
theorem amU{o:Loc}(ho:o.ok)(g:Bool)(k:Nat):(aaS o g k).length≤10:=by
 unfold aaS;split
 ·exact ho.2.1
 simp
theorem ahD{q:List Pc}{x:Pc}(hx:x.txt.length≤m)(h:∀p,p∈q→p.txt.length≤m):∀p,p∈q.set k x→p.txt.length≤m:=λp hp=>by
 rcases List.mem_or_eq_of_mem_set hp with h1|h1
 ·exact h p h1
 rw[h1];exact hx
theorem agE{mk:Nat→List UInt8}{row:List UInt8}(hm:∀k,(mk k).length≤10)(hr:row.length*11+11≤m)(fst z:Bool)(r:List Nat)(q:List Pc)(h:∀p,p∈q→p.txt.length≤m):∀p,p∈acF l mk row fst z r q→p.txt.length≤m:=by
 induction r generalizing fst z q with
 |nil=>exact h
 |cons k r ih=>
  rw[acF];refine ih _ _ _ (ahD ?_ h);have h1:=hm r.length;have h2:=byV hm (adS row fst r.length) r.length;have h3:=bfS row fst r.length;have h4:(adS row fst r.length).length*11≤row.length*11:=bD 11 h3;split
  ·simp only[Pc.txt];repeat' split
   all_goals simp only[aW,bG]
   all_goals omega
  simp only[Pc.txt];omega
theorem ayD{row:List UInt8}(hm:1≤m)(la i:Nat)(r:List Nat)(q:List Pc)(h:∀p,p∈q→p.txt.length≤m):∀p,p∈aaQ l row la i r q→p.txt.length≤m:=by
 induction r generalizing i q with
 |nil=>exact h
 |cons k r ih=>
  rw[aaQ];refine ih _ _ (ahD ?_ h);split
  ·simpa[Pc.txt]using hm
  simp only[Pc.txt];repeat' split
  all_goals simp only[aW,bG]
  all_goals omega
theorem bdR{a b:Nat}{q:List Pc}(h:∀p,p∈q→p.txt.length≤m):∀p,p∈aqB a b q→p.txt.length≤m:=by
 intro p hp;unfold aqB at hp;obtain⟨i,hi,rfl⟩:=eX hp;rw[eQ];split
 ·simp[Pc.txt]
 exact h _ (cF _)
theorem acU(l:List ItN)(mk:Nat→List UInt8)(row:List UInt8)(fst z:Bool)(r:List Nat)(q:List Pc):(acF l mk row fst z r q).length=q.length:=by
 induction r generalizing fst z q with
 |nil=>rfl
 |cons k r ih=>rw[acF,ih,cP]
theorem azT(a b:Nat)(q:List Pc):(aqB a b q).length=q.length:=by unfold aqB;simp
/-! ### the walk's facts -/
theorem cbO(h:¬(0<k∧abS l (k-1)=2)):ajC l k=k:=by
 cases k with
 |zero=>rfl
 |succ k=>rw[ajC,aM (λq=>h ⟨by omega,by simpa using q⟩)]
theorem bvM(h:0<k∧abS l (k-1)=2):ajC l (k-1)=ajC l k:=by
 cases k with
 |zero=>omega
 |succ k=>rw[ajC,aN (by simpa using h.2)];rfl
theorem ccE{n:Nat}(h:0<n):(dec n).dropWhile (·==48)=dec n:=by
 induction n using Nat.strongRecOn with
 |ind n ih=>
  rcases bX n 10 with h1|h1
  ·rw[akZ h1];rcases(by omega:n=1∨n=2∨n=3∨n=4∨n=5∨n=6∨n=7∨n=8∨n=9)with rfl|rfl|rfl|rfl|rfl|rfl|rfl|rfl|rfl<;>rfl
  have h2:=ih (n/10) aA aA;rw[anE h1,List.dropWhile_append,h2,aM (by have:=bgW (n/10);intro q;rw[List.isEmpty_iff]at q;rw[q]at this;simp at this)]
theorem ccC(n:Nat):(dec n).dropWhile (·==48)=ciR n:=by
 unfold ciR;split
 ·rename_i h;subst h;rw[akZ aC];rfl
 exact ccE aA
theorem btR(k:Nat):num (List.replicate k 57)=10^k-1:=by
 induction k with
 |zero=>rfl
 |succ k ih=>
  rw[List.replicate_succ',ahL,ih];have:0<10^k:=bL aC;have e:num [57]=9:=rfl;rw[e,bP];show(10^k-1)*10^1+9=_;omega
theorem btW(k:Nat):Digs (List.replicate k 57):=λc hc=>by
 rw[fO hc];unfold isD;decide
theorem ayL{e:Int}(hd:Digs ds):zU (mkN neg ds e).1.2.1 (mkN neg ds e).1.2.2≤max 0 ((ds.length:Int)+e):=by
 have h:=qU (amS (neg:=neg) (e:=e) hd);rw[h];have h1:=bgG ds;have h2:(abE ds).length≤(akP ds).length:=afK _ _;unfold mkN;split
 ·simp;omega
 split
 ·show((abE ds).length:Int)+(e+adT ds)≤_;unfold adT;omega
 simp;omega
theorem bqM:∃k j:Nat,k=310∧j=972∧18014398509481984*2^j<10^k:=⟨310,972,rfl,rfl,by decide+kernel⟩
theorem amR{e:Int}(hm:m<18014398509481984)(he:0≤e∧e≤972):zU (ofN neg m e).2.1 (ofN neg m e).2.2≤310:=by
 obtain⟨K,J,hK,hJ,hB⟩:=bqM;unfold ofN;rw[aN he.1];have h1:m*2^e.toNat≤18014398509481984*2^J:=eN aA (bB aC aA);have h2:(dec (m*2^e.toNat)).length≤K:=(afX aA).2 (bA h1 hB);have h3:=ayL (neg:=neg) (e:=0) (akH (m*2^e.toNat));omega
theorem biU(x:Nat)(hm:1≤most∧most≤9999):yE (akO x most).1.2.1 (akO x most).1.2.2=true∧zU (akO x most).1.2.1 (akO x most).1.2.2≤310∧(akO x most).2.1≤9999∧1≤(akO x most).2.2∧(akO x most).2.2≤9999:=by
 have hp:=acN x;have he:=aaZ x;unfold akO;split
 ·exact⟨amQ _ _ _,amR aA ⟨by assumption,he.2⟩,Nat.zero_le _,aZ _,by show 1≤9999;decide⟩
 have hr:yA x%2^(-zP x).toNat<2^(-zP x).toNat:=bR _ (bL aC);have h1:=avJ (yA x%2^(-zP x).toNat) (2^(-zP x).toNat) most;have h2:=avI hr most;have h3:yA x/2^(-zP x).toNat≤yA x:=dP _ _;have h4:(abT (yA x%2^(-zP x).toNat) (2^(-zP x).toNat) most).1≤1∧(abT (yA x%2^(-zP x).toNat) (2^(-zP x).toNat) most).2.1≤9999∧1≤(abT (yA x%2^(-zP x).toNat) (2^(-zP x).toNat) most).2.2∧(abT (yA x%2^(-zP x).toNat) (2^(-zP x).toNat) most).2.2≤9999:=by
  unfold abT;split
  ·decide
  exact⟨Nat.zero_le _,by show(qR _ _ _).1≤_;omega,h1.1,by show(qR _ _ _).2≤_;omega⟩
 exact⟨amQ _ _ _,amR aA ⟨by omega,by omega⟩,h4.2.1,h4.2.2.1,h4.2.2.2⟩
theorem ajN(ds:List UInt8)(p:Int)(k:Nat):(adC ds p k).1.length≤p.toNat:=by
 unfold adC;split
 ·simp
 rw[aV];omega
theorem aqN(hd:Digs ds)(p:Int)(k:Nat):Digs (adC ds p k).1:=by
 unfold adC;split
 ·intro c hc;cases hc
 intro c hc;have h0:isD 48:=by unfold isD;decide
 rcases cN.1 (fQ hc)with h|h
 ·rcases cN.1 h with h|h
  ·rw[fO h];exact h0
  exact hd c h
 rw[fO h];exact h0
theorem beX(x:Nat)(hm:1≤most∧most≤9999):Digs (48::apJ (akO x most).1)∧(apJ (akO x most).1).length≤310:=by
 obtain⟨h1,h2,_⟩:=biU x hm;refine⟨λc hc=>?_,?_⟩
 ·rcases dG.1 hc with rfl|hc
  ·unfold isD;decide
  exact aqN (qC h1) _ _ c hc
 have:=ajN (akO x most).1.2.1 (zU (akO x most).1.2.1 (akO x most).1.2.2) 0;unfold apJ abJ;omega
theorem byZ:∃k:Nat,k=311∧10^k*10000+10000<BIG:=⟨311,rfl,by unfold BIG;decide+kernel⟩
theorem bqQ(x:Nat)(hm:1≤most∧most≤9999):num (48::apJ (akO x most).1)<BIG∧num (48::apJ (akO x most).1)*(akO x most).2.2<BIG∧bxY (akO x most)<BIG∧(ciR (bxY (akO x most))).length≤2500:=by
 obtain⟨K,hK,hB⟩:=byZ;obtain⟨h1,h2⟩:=beX x hm;obtain⟨_,_,h3,_,h5⟩:=biU x hm;have h6:=ahK h1;have h7:10^(48::apJ (akO x most).1).length≤10^K:=bB aC aG;have h8:num (48::apJ (akO x most).1)*(akO x most).2.2≤10^K*10000:=eN aA aA;have h9:bxY (akO x most)<BIG:=by unfold bxY;omega
 refine⟨by omega,by omega,h9,?_⟩;unfold ciR;split
 ·simp
 obtain⟨K2,hK2,hB2⟩:=bxJ;have:=(afX (n:=bxY (akO x most)) (k:=K2) aA).2 (eG h9 hB2);omega
theorem cfE(a:Nat)(q:List Pc):aqB a a q=q:=by
 unfold aqB;refine gW aF λj h1 h2=>?_;rw[eQ,aJ]
theorem cfD{a b:Nat}(q:List Pc)(h:a≤b):(aqB a b q).set b (.fx [])=aqB a (b+1) q:=by
 unfold aqB;refine gW aF λj h1 h2=>?_;rw[List.getElem_set,eQ,eQ];by_cases e:b=j
 ·subst e;rw[aN rfl,aK]
 rw[aM e];by_cases c:a≤j∧j<b
 ·rw[aN c,aK]
 rw[aM c,aJ]
end Go.Proofs.YteedncdcbgplfaaGreatDoor
