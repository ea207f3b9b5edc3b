import Derived.Test.YteedncdcbgplfaaGreatDoorJB
set_option maxHeartbeats 1000000
namespace Go.Proofs.YteedncdcbgplfaaGreatDoor
open Go.Proofs.Tryz
open Go Go.RowKit
variable{k m most:Nat}{l:List ItN}{neg:Bool}{ds:List UInt8}
section
set_option maxRecDepth 100000
theorem avB(x y c:Nat)(hx:x<4294967296)(hy:y<4294967296)(hc:c≤1)(H:Heap):ACall prog 253 [.int .u32 (x:Int),.int .u32 (y:Int),.int .u32 (c:Int)] H (λz H'=>z= .tuple [.int .u32 (((x+8589934592-y-c)%4294967296:Nat):Int),.int .u32 ((if x<y+c then 1 else 0:Nat):Int)]∧H'=H):=by
 have hA:∀a b:Nat,b<4294967296→a&&&b<4294967296:=λa b h=>Nat.and_lt_two_pow (n:=32) a h;refine .of_body func253 rfl ntmps253 results253 rfl ?_;iterate 10 refine AM ?_
 refine .p rfl (akY (tm rfl) (tm rfl) aA) ?_;refine AX ?_;refine .p rfl (akY (tm rfl) (tm rfl) aA) ?_;iterate 6 refine AX ?_
 refine .p rfl (anL (tm rfl) aA) ?_;refine AX ?_;refine .p rfl (afU (tm rfl) (tm rfl) aA aB) ?_;iterate 2 refine AX ?_
 refine .p rfl (ayC (tm rfl) (tm rfl) aB aB) ?_;refine .p rfl (anL (tm rfl) (Nat.xor_lt_two_pow (n:=32) hx hy)) ?_;refine AX ?_;refine .p rfl (afU (tm rfl) (tm rfl) aA aA) (.p rfl (bcG (tm rfl) (tm rfl) (by exact hA _ _ aA) (by exact hA _ _ aA)) ?_);refine .p rfl (aiO (tm rfl) (yQ 31) (by exact Nat.or_lt_two_pow (n:=32) (hA _ _ aA) (hA _ _ aA))) ?_;iterate 5 refine AX ?_
 refine⟨?_,rfl⟩;simp only[yN];have hd:((x+(4294967296-y))%4294967296+(4294967296-c))%4294967296=(x+8589934592-y-c)%4294967296:=by omega
 rw[show(2:Nat)^31=2147483648 by decide,borrow32 hx hy hc hd,hd]
def bnC(P Q:Nat)(b:Nat)(H:Heap):Nat→Env→Heap→Prop:=λk env H1=>∃(i c:Nat)(zs:List Nat),i≤(zK P).length∧zs.length=(zK P).length∧Limbs zs∧c≤1∧val (zs.take i)+val ((zK Q).take i)=val ((zK P).take i)+4294967296^i*c∧env=[(0,aaS P),(1,aaS Q),(6,.mslice (some ⟨b,0,none⟩) (zK P).length (zK P).length),(7,.int .u32 (c:Int)),(28,.int .i64 ((zK P).length:Int)),(29,.int .i64 (i:Int))]∧H1=H.set b (.box 210 (U .u32 zs))∧k=(zK P).length-i
theorem subB(P Q:Nat)(hx:P<BIG)(hq:Q≤P):Fn 187 [aaS P,aaS Q] (.tuple [aaS (P-Q),.int .i64 0]):=by
 intro H;have ha256:=abI hx;have hb256:=abI (bG hq hx);have hva:=yG P;have hvb:=yG Q;refine .of_body func187 rfl ntmps187 results187 rfl ?_;iterate 3 refine AM ?_
 iterate 9 refine AX ?_
 refine .e rfl (acB U314 Z159 V159 rfl (tm rfl) (.inl rfl) ⟨rfl,rfl⟩ (tm rfl) (.inl rfl) ⟨rfl,rfl⟩) (.cl rfl C193 (evs1 rfl) (agM _ _ (zS _) aA _ _ _ (zS _) aA _) ?_);iterate 3 refine AX ?_
 refine .cx rfl (λhc10=>?_) (λhc10=>?_)
 ·omega
 iterate 4 refine AX ?_
 refine .cl rfl call189 (evs2 rfl rfl) (cmpB P Q hx aA _) ?_;iterate 4 refine AX ?_
 refine .cx rfl (λhc15=>?_) (λhc15=>?_)
 ·have:=bjZ hc15;omega
 iterate 6 refine AX ?_
 refine .cl rfl C194 (evs1 rfl) (cutB P aA _) ?_;refine AX ?_;refine .cl rfl C194 (evs1 rfl) (cutB Q aA _) ?_;iterate 8 refine AX ?_
 refine .s rfl (qK ((zK P).length) U159 typeInfo210 Z210 V210 (tm rfl) (tm rfl) aA aA aC aA) ?_;rintro _ _ ⟨b26,rfl,hb26,hH⟩;obtain rfl:=hH.symm;iterate 13 refine AM ?_
 iterate 4 refine AX ?_
 refine .loopW (bnC P Q b26 H) ((zK P).length) ⟨0,0,List.replicate (zK P).length 0,Nat.zero_le _,by simp,Limbs.rep aA,by omega,rfl,rfl,rfl,rfl⟩ sX (hRa _) ?_;rintro _ _ _ ⟨i,c,zs,hi,hz,hzl,hc,hv,rfl,rfl,hk⟩;have hgp:=Limbs.getD (zS P) i;have hgq:=Limbs.getD (zS Q) i;iterate 6 refine AX ?_
 refine .cx rfl (λhc30=>?_) (λhc30=>?_)
 ·iterate 15 refine AM ?_
  refine .seqToL [(9,.int .u32 (((zK Q).getD i 0:Nat):Int))] [0,1,6,7,28,29,8] ?_ ?_
  ·iterate 8 refine AX ?_
   refine .cx rfl (λhc35=>?_) (λhc35=>?_)
   ·iterate 3 refine AX ?_
    refine .p rfl (yW (i) U159 Z210 (tm rfl) (tm rfl) aA aA) ?_;iterate 3 refine AX ?_
    exact⟨rfl,(yD rfl aD sX),rfl⟩
   refine AX ?_;exact⟨rfl,(yD rfl (by(rw[ahV aA])) sX),rfl⟩
  refine .sub [(9,_),(0,_),(1,_),(6,_),(7,_),(28,_),(29,_),(8,_)] sX ?_;iterate 5 refine AX ?_
  refine .p rfl (yW (i) U159 Z210 (tm rfl) (tm rfl) aA aA) ?_;iterate 3 refine AX ?_
  refine .cl rfl call253 (evs3 rfl rfl rfl) (avB _ _ _ aB aB aA _) ?_;iterate 3 refine AX ?_
  refine .p rfl (qM (i) U159 Z210 (tm rfl) (tm rfl) aA aA) (.e0 (aaE Z210 (tm rfl) (tm rfl) (oS _ _ _) aA) ?_);try first|rw[sS]|rw[sU aB]
  iterate 9 refine AX ?_
  refine Round.mk ⟨i+1,_,_,by omega,by simpa using hz,Limbs.set hzl aA,by split<;>omega,bgA aA hgp hgq hc hv,rfl,rfl,rfl⟩ sX (hRa _) aA
 iterate 6 refine AX ?_
 have hi2:i=(zK P).length:=by omega
 subst hi2;have hv2:=bkN hz hzl rfl hq hc hv;refine .frzU (t:=6) rfl hb26 aA (bA _) (by simp only[zT];omega) ?_;rw[aX aA];iterate 2 refine AX ?_
 refine .cl rfl C194 (evs1 rfl) (qT zs .shared hzl aA _) ?_;iterate 6 refine AX ?_
 refine⟨?_,rfl⟩;rw[hv2];rfl
def baP(n:Nat)(H:Heap):Nat→Env→Heap→Prop:=λk env H1=>∃i:Nat,i≤(zK n).length∧env=[(0,aaS n),(4,.int .u64 ((val ((zK n).take i):Nat):Int)),(12,.int .i64 ((zK n).length:Int)),(13,.int .i64 (i:Int))]∧H=H1∧k=(zK n).length-i
theorem valueB(n:Nat)(hn:n<18446744073709551616):Fn 191 [aaS n] (.tuple [.int .u64 (n:Int),.bool true]):=by
 intro H;have hl2:(zK n).length≤2:=qS.2 (by rw[show(4294967296:Nat)^2=18446744073709551616 by decide];exact hn);refine .of_body func191 rfl ntmps191 results191 rfl ?_;iterate 9 refine AM ?_
 refine .cl rfl C194 (evs1 rfl) (cutB n aA _) ?_;iterate 13 refine AM ?_
 iterate 3 refine AX ?_
 refine .cx rfl (λhc10=>?_) (λhc10=>?_)
 ·omega
 iterate 11 refine AX ?_
 refine .loopW (baP n H) ((zK n).length) ⟨0,Nat.zero_le _,rfl,rfl,rfl⟩ sX (hRa _) ?_;rintro _ _ _ ⟨i,hi,rfl,rfl,hk⟩;iterate 6 refine AX ?_
 refine .cx rfl (λhc14=>?_) (λhc14=>?_)
 ·obtain⟨hs1,hs2,hs3⟩:=axJ (zS n) hl2 (i:=i) aA;have hs4:(zK n).getD i 0<18446744073709551616:=Nat.lt_trans (Limbs.getD (zS n) i) aC;iterate 14 refine AX ?_
  refine .p rfl (yW (i) U159 Z210 (tm rfl) (tm rfl) aA aA) ?_;refine AX ?_;refine .p rfl (qQ U210 U25 (tm rfl) (wrapN64 aB)) ?_;refine AX ?_;refine .p rfl (.say (b:=.int .i64 ((32*i:Nat):Int)) (by congr 1<;>omega) (aoZ (zG) (tm rfl) aA)) ?_;refine .p rfl (aeE (tm rfl) (tm rfl) aA (by exact hs3)) (.p rfl (afH (tm rfl) (tm rfl) aB aB) ?_);iterate 9 refine AX ?_
  refine Round.mk ⟨i+1,by omega,rfl,rfl,rfl⟩ (zJ rfl (yD rfl (by rw[hs1]) sX)) (hRa _) aA
 iterate 14 refine AX ?_
 refine⟨?_,rfl⟩;rw[aX aA,yG];rfl
end
def agX(r unit p q:Nat):Nat:=if r*q<unit*p then unit*p-r*q else r*q-unit*p
def aiF(r unit:Nat)(st:Nat×Nat)(p q:Nat):Nat×Nat:=if agX r unit p q*st.2<agX r unit st.1 st.2*q then(p,q)else st
def bcB(r unit:Nat)(st:Nat×Nat)(q:Nat):Nat×Nat:=aiF r unit (aiF r unit st (r*q/unit) q) (r*q/unit+1) q
def yV(r unit:Nat):Nat→Nat×Nat
 |0=>(0,1)
 |n+1=>bcB r unit (yV r unit n) (n+1)
def aaF(r unit most:Nat):Nat×Nat×Nat:=if yV r unit most=(1,1)then(1,0,1)else(0,(yV r unit most).1,(yV r unit most).2)
theorem bcW{r unit q:Nat}:agX r unit (r*q/unit) q=r*q-r*q/unit*unit:=by
 unfold agX;have:=Nat.div_mul_le_self (r*q) unit;rw[bL unit,aI]
theorem bgZ{r unit q:Nat}(hu:0<unit):agX r unit (r*q/unit+1) q=unit-(r*q-r*q/unit*unit):=by
 unfold agX;have h1:=Nat.div_mul_le_self (r*q) unit;have h2:=Nat.lt_div_mul_add (a:=r*q) hu;have h3:unit*(r*q/unit+1)=r*q/unit*unit+unit:=by rw[bZ,bL,Nat.mul_one]
 rw[h3,aJ];omega
theorem bcV(r unit:Nat):agX r unit 0 1=r:=by unfold agX;simp
theorem bfU{r unit p q:Nat}{st:Nat×Nat}(h:(p,q)=st):aiF r unit st p q=st:=by
 subst h;unfold aiF;rw[aL aF]
theorem avJ{r unit p q:Nat}{st:Nat×Nat}:(aiF r unit st p q).2=q∨(aiF r unit st p q).2=st.2:=by
 unfold aiF;split
 ·exact .inl rfl
 exact .inr rfl
theorem anJ(r unit n:Nat):1≤(yV r unit n).2∧(yV r unit n).2≤max 1 n:=by
 induction n with
 |zero=>exact⟨bA _,bA _⟩
 |succ n ih=>
  rw[yV,bcB];rcases avJ (r:=r) (unit:=unit) (p:=r*(n+1)/unit+1) (q:=n+1) (st:=aiF r unit (yV r unit n) (r*(n+1)/unit) (n+1))with h|h
  ·rw[h];omega
  rw[h];rcases avJ (r:=r) (unit:=unit) (p:=r*(n+1)/unit) (q:=n+1) (st:=yV r unit n)with h|h<;>rw[h]<;>omega
theorem anI{r unit:Nat}(hr:r<unit)(n:Nat):(yV r unit n).1≤(yV r unit n).2:=by
 have lt:∀q,1≤q→r*q/unit+1≤q:=λq hq=>Nat.div_lt_of_lt_mul (Nat.mul_lt_mul_of_pos_right hr aA);induction n with
 |zero=>exact Nat.zero_le _
 |succ n ih=>
  have h1:=lt (n+1) aA;have key:∀(st:Nat×Nat)(p q:Nat),p≤q→st.1≤st.2→(aiF r unit st p q).1≤(aiF r unit st p q).2:=λst p q h h2=>by
   unfold aiF;split
   ·exact h
   exact h2
  rw[yV,bcB];exact key _ _ _ h1 (key _ _ _ aA ih)
section
open Go Go.RowKit
set_option maxRecDepth 100000
theorem bnV(r unit p q:Nat):agX r unit p q≤max (r*q) (unit*p):=by unfold agX;split<;>omega
theorem afA(a q:Nat)(ha:a<BIG)(hq:q≤100000)(hqB:q<BIG)(hb:a*q<BIG):Fn 190 [aaS a,.int .i64 (q:Int)] (aaS (a*q)):=by
 intro H;refine .of_body func190 rfl ntmps190 results190 rfl ?_;iterate 9 refine AX ?_
 refine .p rfl (qQ U3 U25 (tm rfl) (wrap64 aA aA)) (.cl rfl C93 (evs1 rfl) (acD q aA _) (.cl rfl C106 (evs2 rfl rfl) (mulB a q ha hqB hb _) ?_));iterate 15 refine AX ?_
 exact⟨rfl,rfl⟩
end
theorem bfJ:∃k:Nat,k=2500∧BIG<10^k:=⟨2500,rfl,by unfold BIG;decide+kernel⟩
theorem auN(ds:List UInt8):(arO ds).length≤ds.length:=alX _ _
theorem bdI(ds:List UInt8):ahM ds≤ds.length:=by unfold ahM;have:=auN ds;omega
theorem bcY(neg:Bool){e:Int}(hm:m<18014398509481984)(he: -1075≤e∧e≤972): -1075≤(ofN neg m e).2.2∧(ofN neg m e).2.2≤2500:=by
 obtain⟨K,hK,hB⟩:=bfJ;have h1:=bjP hm he;have h2:(dec (ofR m e)).length≤K:=(aeR aA).2 (Nat.lt_trans h1 hB);have h3:=bdI (dec (ofR m e));have h4: -1075≤ofX m e∧ofX m e≤0:=by
  unfold ofX;have:=(ajR (-e).toNat m).2;split<;>omega
 rw[bcZ];unfold mkN;split
 ·simp
 split
 ·simp only;omega
 simp
theorem bgC{x:Nat}(hk:yT x<3):(aoK x 15).2=0∧ -2000≤(aoK x 15).1.2.2∧(aoK x 15).1.2.2≤5000:=by
 have hm:=ahK x;have hp:=acU x;have he:=bcY (auK x) (m:=zZ x) (e:=zN x) aA hp;have hr:=ahL (auK x) (zZ x) (zN x);have hl:=(yX hr).1;unfold aoK;rw[aI];unfold agY;rw[aI];generalize ofN (auK x) (zZ x) (zN x)=o at *;obtain⟨ng,ds,e⟩:=o
 dsimp only at he hr hl ⊢
 unfold bkP;split
 ·exact⟨rfl,by show-2000≤e;omega,by show e≤5000;omega⟩
 rename_i hlen
 unfold boG;have hs:∀s:List UInt8,s.length≤16→(mkN ng s (e+ds.length-15)).2=0∧ -2000≤(mkN ng s (e+ds.length-15)).1.2.2∧(mkN ng s (e+ds.length-15)).1.2.2≤5000:=by
  intro s hs;have h1:=bdI s;have h2:(abZ s).length≤s.length:=bK (adL _ _) (auN s);unfold mkN;split
  ·simp
  split
  ·exact⟨rfl,by show-2000≤e+(ds.length:Int)-15+(ahM s:Int);omega,by show e+(ds.length:Int)-15+(ahM s:Int)≤5000;omega⟩
  rename_i h;exact absurd (show okD s (e+ds.length-15)from⟨by omega,by omega,by omega⟩) h
 refine hs _ ?_;split
 ·refine bK (ajX _) ?_;rw[aU];omega
 rw[aU];omega
theorem bmC{l:Loc}(hk:l.ok){e:Int}(hr:yL ds e=true)(hlen:ds.length≤16)(he: -2000≤e∧e≤5000):(bfQ l ((neg,ds,e),0)).length≤900:=by
 obtain⟨h1,h2,h3,h4,h5⟩:=hk;have hm:(if neg=true then l.minus else []).length≤10:=by split;exact h3;simp
 unfold bfQ;simp only[ne_eq,not_true_eq_false,if_false];have hp9:=he;split
 ·rename_i hp
  have hp2:(ds.length:Int)+e≤15∧ -4≤(ds.length:Int)+e:=by
   rcases hp with rfl|hp
   ·have:e=0:=by simpa[yL]using hr
    subst this;exact⟨by simp,by simp⟩
   exact⟨hp.2,hp.1⟩
  have hs:(qX ds ((ds.length:Int)+e)).1.1.length≤100∧(qX ds ((ds.length:Int)+e)).1.2.length≤100:=by
   unfold qX;split
   ·simp
   split
   ·simp only[aW,aY,aQ,aZ];omega
   split
   ·simp only[aY,aQ,aZ];omega
   simp only[aU,bD];omega
  have h6:(if(qX ds ((ds.length:Int)+e)).1.2=[]then []else l.dc++(qX ds ((ds.length:Int)+e)).1.2).length≤110:=by
   by_cases q:(qX ds ((ds.length:Int)+e)).1.2=[]
   ·rw[aM q];simp
   rw[aL q,aQ];omega
  unfold agE;by_cases q:(qX ds ((ds.length:Int)+e)).2=true
  ·rw[aM q,aQ,aQ];omega
  rw[aL q];simp
 have hd:(dec (awU ((ds.length:Int)+e))).length≤8:=(aeR aC).2 (by unfold awU;split<;>omega);have h0:(if(dec (awU ((ds.length:Int)+e))).length<2 then([48]:List UInt8)else []).length≤1:=by split<;>simp
 have h6:(if(1:Int)<(ds.length:Int)then l.dc++ds.drop 1 else []).length≤110:=by
  by_cases q:(1:Int)<(ds.length:Int)
  ·rw[aM q,aQ,bD];omega
  rw[aL q];simp
 unfold arN;simp only[aQ,aW,aY,aU];omega
theorem aqM{l:Loc}(hk:l.ok){x:Nat}(hx:yT x<3):(bfQ l (aoK x 15)).length≤900:=by
 obtain⟨h1,h2,h3⟩:=bgC hx;have hr:=amZ x 15;have hl2:=avN x 15;generalize hs:aoK x 15=s at *;obtain⟨⟨ng,ds,e⟩,er⟩:=s
 dsimp only at h1 h2 h3 hr hl2 ⊢
 subst h1;exact bmC hk hr aA ⟨h2,h3⟩
def afL(l:List ItN):Nat→Nat
 |0=>0
 |k+1=>if aaJ l k=2 then afL l k else k+1
theorem bhS(l:List ItN)(k:Nat):afL l k≤k:=by
 induction k with
 |zero=>exact bA _
 |succ k ih=>rw[afL];split<;>omega
def abC(x:Nat):Nat:=x%9223372036854775808
def qC(l:List ItN):Nat:=zW l [6]
def aeV(l:List ItN):List Nat:=aeY l (qC l) l.length
def blN(l:List ItN):List Nat:=aeY l (afL l (qC l)) (qC l)
def amJ(l:List ItN):List Nat:=aeY l 0 (afL l (qC l))
def aiQ(l:List ItN):Nat:=10^(aeV l).length-1
def agC(x most:Nat):(Bool×List UInt8×Int)×Nat×Nat:=
 if 0≤zN x then(ofN (auK x) (zZ x) (zN x),0,1)
 else(ofN (auK x) (zZ x/2^(-zN x).toNat+(aaF (zZ x%2^(-zN x).toNat) (2^(-zN x).toNat) most).1) 0,(aaF (zZ x%2^(-zN x).toNat) (2^(-zN x).toNat) most).2)
def ajO(d:Bool×List UInt8×Int):List UInt8:=(bfN d 0).1
def bmM(n:Nat):List UInt8:=if n=0 then []else dec n
def bfW(r:(Bool×List UInt8×Int)×Nat×Nat):Nat:=num (48::ajO r.1)*r.2.2+r.2.1
def akE(a b:Nat)(q:List Pc):List Pc:=q.mapIdx λj p=>if a≤j∧j<b then .fx []else p
def amN(l:List ItN)(gr:Bool)(o:Loc)(r:(Bool×List UInt8×Int)×Nat×Nat)(q:List Pc):List Pc:=
 if(amJ l).length=0 then aaY l (aaW o gr) (bmM (bfW r)) true false (blN l) (q.set ((aeV l).getD 0 0) (.fx (dec r.2.2)))
 else if r.2.1=0 then akE ((amJ l).getD ((amJ l).length-1) 0+1) ((aeV l).getD ((aeV l).length-1) 0+1) (aaY l (aaW o gr) (ajO r.1) true false (amJ l) (q.set ((aeV l).getD 0 0) (.fx (dec r.2.2))))
 else aaY l (aaW o gr) (dec r.2.1) true false (blN l) (aaY l (aaW o gr) (ajO r.1) true false (amJ l) (q.set ((aeV l).getD 0 0) (.fx (dec r.2.2))))
def ayW(l:List ItN)(r:(Bool×List UInt8×Int)×Nat×Nat):Bool:=
 if(amJ l).length=0 then decide (bmM (bfW r)≠[])||decide (ajO r.1≠[])
 else if r.2.1=0 then decide (ajO r.1≠[])else true
def aaB(o:Loc)(s:SecN)(x:Nat):List Pc×Bool:=
 if zX s=6 then(apZ s.items 8 (bfQ o (aoK x 15)) s.items.length (s.items.map (acV o)),false)
 else if zX s=5 then(apZ s.items 7 (bfQ o (aoK (abC x) 15)) s.items.length (s.items.map (acV o)),decide (bfQ o (aoK (abC x) 15)≠[48]))
 else if zX s=2∨zX s=3 then(blM s.items s.grouped s.scale o (agY (abC x)).1.1 (agY (abC x)).1.2.1 (agY (abC x)).1.2.2 (s.items.map (acV o)),decide ((asP s.items s.scale (agY (abC x)).1.1 (agY (abC x)).1.2.1 (agY (abC x)).1.2.2).2.1≠[]))
 else if zX s=4 then(amN s.items s.grouped o (agC (abC x) (aiQ s.items)) (s.items.map (acV o)),ayW s.items (agC (abC x) (aiQ s.items)))
 else(s.items.map (acV o),false)
def yR(o:Loc)(p:List SecN)(x:Nat):List UInt8×Int:=
 if qL p=false then([],12)else if 3≤yT x then([],11)
 else((if(aaB o (atF p x) x).2=true∧x/9223372036854775808=1∧p.length=1 then o.minus else [])++adM (aaB o (atF p x) x).1,0)
/-! ### how long it may be -/
theorem bgN{mk:Nat→List UInt8}(h:∀k,(mk k).length≤m)(s:List UInt8)(last:Nat):(baG mk s last).length≤s.length*(m+1):=by
 induction s with
 |nil=>exact Nat.zero_le _
 |cons x r ih=>
  have:=h (last+r.length);rw[baG,aQ,aW,aW,bM];omega
theorem ahO{o:Loc}(ho:o.ok)(g:Bool)(k:Nat):(aaW o g k).length≤10:=by
 unfold aaW;split
 ·exact ho.2.1
 simp
theorem adP{q:List Pc}{x:Pc}(hx:x.txt.length≤m)(h:∀p,p∈q→p.txt.length≤m):∀p,p∈q.set k x→p.txt.length≤m:=λp hp=>by
 rcases List.mem_or_eq_of_mem_set hp with h1|h1
 ·exact h p h1
 rw[h1];exact hx
theorem acZ{mk:Nat→List UInt8}{row:List UInt8}(hm:∀k,(mk k).length≤10)(hr:row.length*11+11≤m)(fst z:Bool)(r:List Nat)(q:List Pc)(h:∀p,p∈q→p.txt.length≤m):∀p,p∈aaY l mk row fst z r q→p.txt.length≤m:=by
 induction r generalizing fst z q with
 |nil=>exact h
 |cons k r ih=>
  rw[aaY];refine ih _ _ _ (adP ?_ h);have h1:=hm r.length;have h2:=bgN hm (aiP row fst r.length) r.length;have h3:=auG row fst r.length;have h4:(aiP row fst r.length).length*11≤row.length*11:=bC 11 h3;split
  ·simp only[Pc.txt];repeat' split
   all_goals simp only[aW,aY]
   all_goals omega
  simp only[Pc.txt];omega
theorem apE{row:List UInt8}(hm:1≤m)(la i:Nat)(r:List Nat)(q:List Pc)(h:∀p,p∈q→p.txt.length≤m):∀p,p∈qV l row la i r q→p.txt.length≤m:=by
 induction r generalizing i q with
 |nil=>exact h
 |cons k r ih=>
  rw[qV];refine ih _ _ (adP ?_ h);split
  ·simpa[Pc.txt]using hm
  simp only[Pc.txt];repeat' split
  all_goals simp only[aW,aY]
  all_goals omega
theorem asS{a b:Nat}{q:List Pc}(h:∀p,p∈q→p.txt.length≤m):∀p,p∈akE a b q→p.txt.length≤m:=by
 intro p hp;unfold akE at hp;obtain⟨i,hi,rfl⟩:=cH hp;rw[bP];split
 ·simp[Pc.txt]
 exact h _ (bF _)
theorem aaX(l:List ItN)(mk:Nat→List UInt8)(row:List UInt8)(fst z:Bool)(r:List Nat)(q:List Pc):(aaY l mk row fst z r q).length=q.length:=by
 induction r generalizing fst z q with
 |nil=>rfl
 |cons k r ih=>rw[aaY,ih,bX]
theorem aqA(a b:Nat)(q:List Pc):(akE a b q).length=q.length:=by unfold akE;simp
/-! ### the walk's facts -/
theorem bhR(h:¬(0<k∧aaJ l (k-1)=2)):afL l k=k:=by
 cases k with
 |zero=>rfl
 |succ k=>rw[afL,aL (λq=>h ⟨by omega,by simpa using q⟩)]
theorem beB(h:0<k∧aaJ l (k-1)=2):afL l (k-1)=afL l k:=by
 cases k with
 |zero=>omega
 |succ k=>rw[afL,aM (by simpa using h.2)];rfl
theorem bhZ{n:Nat}(h:0<n):(dec n).dropWhile (·==48)=dec n:=by
 induction n using Nat.strongRecOn with
 |ind n ih=>
  rcases bO n 10 with h1|h1
  ·rw[alZ h1];rcases(by omega:n=1∨n=2∨n=3∨n=4∨n=5∨n=6∨n=7∨n=8∨n=9)with rfl|rfl|rfl|rfl|rfl|rfl|rfl|rfl|rfl<;>rfl
  have h2:=ih (n/10) aA aA;rw[amA h1,List.dropWhile_append,h2,aL (by have:=auT (n/10);intro q;rw[List.isEmpty_iff]at q;rw[q]at this;simp at this)]
theorem bhX(n:Nat):(dec n).dropWhile (·==48)=bmM n:=by
 unfold bmM;split
 ·rename_i h;subst h;rw[alZ aC];rfl
 exact bhZ aA
theorem bdA(k:Nat):num (List.replicate k 57)=10^k-1:=by
 induction k with
 |zero=>rfl
 |succ k ih=>
  rw[List.replicate_succ',anP,ih];have:0<10^k:=cK aC;have e:num [57]=9:=rfl;rw[e,cB];show(10^k-1)*10^1+9=_;omega
theorem bdF(k:Nat):Digs (List.replicate k 57):=λc hc=>by
 rw[eD hc];unfold isD;decide
theorem bhE{e:Int}(hd:Digs ds):yC (mkN neg ds e).1.2.1 (mkN neg ds e).1.2.2≤max 0 ((ds.length:Int)+e):=by
 have h:=qW (ajW (neg:=neg) (e:=e) hd);rw[h];have h1:=auN ds;have h2:(abZ ds).length≤(arO ds).length:=adL _ _;unfold mkN;split
 ·simp;omega
 split
 ·show((abZ ds).length:Int)+(e+ahM ds)≤_;unfold ahM;omega
 simp;omega
theorem bkH:∃k:Nat,k=310∧18014398509481984*2^972<10^k:=⟨310,rfl,by decide+kernel⟩
theorem arH{e:Int}(hm:m<18014398509481984)(he:0≤e∧e≤972):yC (ofN neg m e).2.1 (ofN neg m e).2.2≤310:=by
 obtain⟨K,hK,hB⟩:=bkH;unfold ofN;rw[aM he.1];have h1:m*2^e.toNat≤18014398509481984*2^972:=dY aA (bU aC aA);have h2:(dec (m*2^e.toNat)).length≤K:=(aeR aA).2 (bG h1 hB);have h3:=bhE (neg:=neg) (e:=0) (apQ (m*2^e.toNat));omega
theorem awD(x:Nat)(hm:1≤most∧most≤9999):yL (agC x most).1.2.1 (agC x most).1.2.2=true∧yC (agC x most).1.2.1 (agC x most).1.2.2≤310∧(agC x most).2.1≤9999∧1≤(agC x most).2.2∧(agC x most).2.2≤9999:=by
 have hp:=ahK x;have he:=acU x;unfold agC;split
 ·exact⟨ahL _ _ _,arH aA ⟨by assumption,he.2⟩,Nat.zero_le _,bA _,by show 1≤9999;decide⟩
 have hr:zZ x%2^(-zN x).toNat<2^(-zN x).toNat:=cO _ (cK aC);have h1:=anJ (zZ x%2^(-zN x).toNat) (2^(-zN x).toNat) most;have h2:=anI hr most;have h3:zZ x/2^(-zN x).toNat≤zZ x:=eM _ _;have h4:(aaF (zZ x%2^(-zN x).toNat) (2^(-zN x).toNat) most).1≤1∧(aaF (zZ x%2^(-zN x).toNat) (2^(-zN x).toNat) most).2.1≤9999∧1≤(aaF (zZ x%2^(-zN x).toNat) (2^(-zN x).toNat) most).2.2∧(aaF (zZ x%2^(-zN x).toNat) (2^(-zN x).toNat) most).2.2≤9999:=by
  unfold aaF;split
  ·decide
  exact⟨Nat.zero_le _,by show(yV _ _ _).1≤_;omega,h1.1,by show(yV _ _ _).2≤_;omega⟩
 exact⟨ahL _ _ _,arH aA ⟨by omega,by omega⟩,h4.2.1,h4.2.2.1,h4.2.2.2⟩
theorem axN(ds:List UInt8)(p:Int)(k:Nat):(acP ds p k).1.length≤p.toNat:=by
 unfold acP;split
 ·simp
 rw[aU];omega
theorem asX(hd:Digs ds)(p:Int)(k:Nat):Digs (acP ds p k).1:=by
 unfold acP;split
 ·intro c hc;cases hc
 intro c hc;have h0:isD 48:=by unfold isD;decide
 rcases dK.1 (List.mem_of_mem_take hc)with h|h
 ·rcases dK.1 h with h|h
  ·rw[eD h];exact h0
  exact hd c h
 rw[eD h];exact h0
theorem atV(x:Nat)(hm:1≤most∧most≤9999):Digs (48::ajO (agC x most).1)∧(ajO (agC x most).1).length≤310:=by
 obtain⟨h1,h2,_⟩:=awD x hm;refine⟨λc hc=>?_,?_⟩
 ·rcases cM.1 hc with rfl|hc
  ·unfold isD;decide
  exact asX (qO h1) _ _ c hc
 have:=axN (agC x most).1.2.1 (yC (agC x most).1.2.1 (agC x most).1.2.2) 0;unfold ajO bfN;omega
theorem bgQ:∃k:Nat,k=311∧10^k*10000+10000<BIG:=⟨311,rfl,by unfold BIG;decide+kernel⟩
theorem baT(x:Nat)(hm:1≤most∧most≤9999):num (48::ajO (agC x most).1)<BIG∧num (48::ajO (agC x most).1)*(agC x most).2.2<BIG∧bfW (agC x most)<BIG∧(bmM (bfW (agC x most))).length≤2500:=by
 obtain⟨K,hK,hB⟩:=bgQ;obtain⟨h1,h2⟩:=atV x hm;obtain⟨_,_,h3,_,h5⟩:=awD x hm;have h6:=arK h1;have h7:10^(48::ajO (agC x most).1).length≤10^K:=bU aC aG;have h8:num (48::ajO (agC x most).1)*(agC x most).2.2≤10^K*10000:=dY aA aA;have h9:bfW (agC x most)<BIG:=by unfold bfW;omega
 refine⟨by omega,by omega,h9,?_⟩;unfold bmM;split
 ·simp
 obtain⟨K2,hK2,hB2⟩:=bfJ;have:=(aeR (n:=bfW (agC x most)) (k:=K2) aA).2 (Nat.lt_trans h9 hB2);omega
theorem bkE(a:Nat)(q:List Pc):akE a a q=q:=by
 unfold akE;refine cW aF λj h1 h2=>?_;rw[bP,aI]
theorem bkD{a b:Nat}(q:List Pc)(h:a≤b):(akE a b q).set b (.fx [])=akE a (b+1) q:=by
 unfold akE;refine cW aF λj h1 h2=>?_;rw[List.getElem_set,bP,bP];by_cases e:b=j
 ·subst e;rw[aM rfl,aJ]
 rw[aL e];by_cases c:a≤j∧j<b
 ·rw[aM c,aJ]
 rw[aL c,aI]
end Go.Proofs.YteedncdcbgplfaaGreatDoor
