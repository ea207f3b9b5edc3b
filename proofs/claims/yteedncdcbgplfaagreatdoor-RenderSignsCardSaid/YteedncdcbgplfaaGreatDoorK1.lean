import Derived.Test.YteedncdcbgplfaaGreatDoorJB
set_option maxHeartbeats 1000000
namespace Go.Proofs.YteedncdcbgplfaaGreatDoor
open Go.Proofs.Tryz
open Go Go.RowKit
variable{k m most:Nat}{l:List ItN}{neg:Bool}{ds:List UInt8}
section
set_option maxRecDepth 100000
theorem bbV(x y c:Nat)(hx:x<4294967296)(hy:y<4294967296)(hc:c≤1)(H:Heap):ACall prog 253 [.int .u32 (x:Int),.int .u32 (y:Int),.int .u32 (c:Int)] H (λz H'=>z= .tuple [.int .u32 (((x+8589934592-y-c)%4294967296:Nat):Int),.int .u32 ((if x<y+c then 1 else 0:Nat):Int)]∧H'=H):=by
 have hA:∀a b:Nat,b<4294967296→a&&&b<4294967296:=λa b h=>Nat.and_lt_two_pow (n:=32) a h;refine .of_body func253 rfl ntmps253 results253 rfl ?_;iterate 10 refine AM ?_
 refine .p rfl (apN (tm rfl) (tm rfl) aA) ?_;refine AX ?_;refine .p rfl (apN (tm rfl) (tm rfl) aA) ?_;iterate 6 refine AX ?_
 refine .p rfl (asI (tm rfl) aA) ?_;refine AX ?_;refine .p rfl (aiF (tm rfl) (tm rfl) aA aB) ?_;iterate 2 refine AX ?_
 refine .p rfl (bfZ (tm rfl) (tm rfl) aB aB) ?_;refine .p rfl (asI (tm rfl) (Nat.xor_lt_two_pow (n:=32) hx hy)) ?_;refine AX ?_;refine .p rfl (aiF (tm rfl) (tm rfl) aA aA) (.p rfl (apQ (tm rfl) (tm rfl) (by exact hA _ _ aA) (by exact hA _ _ aA)) ?_);refine .p rfl (alX (tm rfl) (yT 31) (by exact Nat.or_lt_two_pow (n:=32) (hA _ _ aA) (hA _ _ aA))) ?_;iterate 5 refine AX ?_
 refine⟨?_,rfl⟩;simp only[yY];have hd:((x+(4294967296-y))%4294967296+(4294967296-c))%4294967296=(x+8589934592-y-c)%4294967296:=by omega
 rw[show(2:Nat)^31=2147483648 by decide,borrow32 hx hy hc hd,hd]
def bxM(P Q:Nat)(b:Nat)(H:Heap):Nat→Env→Heap→Prop:=λk env H1=>∃(i c:Nat)(zs:List Nat),i≤(zK P).length∧zs.length=(zK P).length∧Limbs zs∧c≤1∧val (zs.take i)+val ((zK Q).take i)=val ((zK P).take i)+4294967296^i*c∧env=[(0,qE P),(1,qE Q),(6,.mslice (some ⟨b,0,none⟩) (zK P).length (zK P).length),(7,.int .u32 (c:Int)),(28,.int .i64 ((zK P).length:Int)),(29,.int .i64 (i:Int))]∧H1=H.set b (.box 210 (U .u32 zs))∧k=(zK P).length-i
theorem subB(P Q:Nat)(hx:P<BIG)(hq:Q≤P):Fn 187 [qE P,qE Q] (.tuple [qE (P-Q),.int .i64 0]):=by
 intro H;have ha256:=yM hx;have hb256:=yM (bI hq hx);have hva:=zR P;have hvb:=zR Q;refine .of_body func187 rfl ntmps187 results187 rfl ?_;iterate 3 refine AM ?_
 iterate 9 refine AX ?_
 refine .e rfl (adK U314 Z159 V159 rfl (tm rfl) (.inl rfl) ⟨rfl,rfl⟩ (tm rfl) (.inl rfl) ⟨rfl,rfl⟩) (.cl rfl C193 (evs1 rfl) (ajH _ _ (zL _) aA _ _ _ (zL _) aA _) ?_);iterate 3 refine AX ?_
 refine .cx rfl (λhc10=>?_) (λhc10=>?_)
 ·omega
 iterate 4 refine AX ?_
 refine .cl rfl call189 (evs2 rfl rfl) (cmpB P Q hx aA _) ?_;iterate 4 refine AX ?_
 refine .cx rfl (λhc15=>?_) (λhc15=>?_)
 ·have:=buC hc15;omega
 iterate 6 refine AX ?_
 refine .cl rfl C194 (evs1 rfl) (cutB P aA _) ?_;refine AX ?_;refine .cl rfl C194 (evs1 rfl) (cutB Q aA _) ?_;iterate 8 refine AX ?_
 refine .s rfl (qJ ((zK P).length) U159 typeInfo210 Z210 V210 (tm rfl) (tm rfl) aA aA aC aA) ?_;rintro _ _ ⟨b26,rfl,hb26,hH⟩;obtain rfl:=hH.symm;iterate 13 refine AM ?_
 iterate 4 refine AX ?_
 refine .loopW (bxM P Q b26 H) ((zK P).length) ⟨0,0,List.replicate (zK P).length 0,Nat.zero_le _,by simp,Limbs.rep aA,by omega,rfl,rfl,rfl,rfl⟩ sX (hRa _) ?_;rintro _ _ _ ⟨i,c,zs,hi,hz,hzl,hc,hv,rfl,rfl,hk⟩;have hgp:=Limbs.getD (zL P) i;have hgq:=Limbs.getD (zL Q) i;iterate 6 refine AX ?_
 refine .cx rfl (λhc30=>?_) (λhc30=>?_)
 ·iterate 15 refine AM ?_
  refine .seqToL [(9,.int .u32 (((zK Q).getD i 0:Nat):Int))] [0,1,6,7,28,29,8] ?_ ?_
  ·iterate 8 refine AX ?_
   refine .cx rfl (λhc35=>?_) (λhc35=>?_)
   ·iterate 3 refine AX ?_
    refine .p rfl (yL (i) U159 Z210 (tm rfl) (tm rfl) aA aA) ?_;iterate 3 refine AX ?_
    exact⟨rfl,(zU rfl aD sX),rfl⟩
   refine AX ?_;exact⟨rfl,(zU rfl (by(rw[aiJ aA])) sX),rfl⟩
  refine .sub [(9,_),(0,_),(1,_),(6,_),(7,_),(28,_),(29,_),(8,_)] sX ?_;iterate 5 refine AX ?_
  refine .p rfl (yL (i) U159 Z210 (tm rfl) (tm rfl) aA aA) ?_;iterate 3 refine AX ?_
  refine .cl rfl call253 (evs3 rfl rfl rfl) (bbV _ _ _ aB aB aA _) ?_;iterate 3 refine AX ?_
  refine .p rfl (yR (i) U159 Z210 (tm rfl) (tm rfl) aA aA) (.e0 (qS Z210 (tm rfl) (tm rfl) (oS _ _ _) aA) ?_);try first|rw[sS]|rw[sU aB]
  iterate 9 refine AX ?_
  refine Round.mk ⟨i+1,_,_,by omega,by simpa using hz,Limbs.set hzl aA,by split<;>omega,bpF aA hgp hgq hc hv,rfl,rfl,rfl⟩ sX (hRa _) aA
 iterate 6 refine AX ?_
 have hi2:i=(zK P).length:=by omega
 subst hi2;have hv2:=buV hz hzl rfl hq hc hv;refine .frzU (t:=6) rfl hb26 aA (bB _) (by simp only[zN];omega) ?_;rw[aZ aA];iterate 2 refine AX ?_
 refine .cl rfl C194 (evs1 rfl) (aaY zs .shared hzl aA _) ?_;iterate 6 refine AX ?_
 refine⟨?_,rfl⟩;rw[hv2];rfl
def biZ(n:Nat)(H:Heap):Nat→Env→Heap→Prop:=λk env H1=>∃i:Nat,i≤(zK n).length∧env=[(0,qE n),(4,.int .u64 ((val ((zK n).take i):Nat):Int)),(12,.int .i64 ((zK n).length:Int)),(13,.int .i64 (i:Int))]∧H=H1∧k=(zK n).length-i
theorem valueB(n:Nat)(hn:n<18446744073709551616):Fn 191 [qE n] (.tuple [.int .u64 (n:Int),.bool true]):=by
 intro H;have hl2:(zK n).length≤2:=qT.2 (by rw[show(4294967296:Nat)^2=18446744073709551616 by decide];exact hn);refine .of_body func191 rfl ntmps191 results191 rfl ?_;iterate 9 refine AM ?_
 refine .cl rfl C194 (evs1 rfl) (cutB n aA _) ?_;iterate 13 refine AM ?_
 iterate 3 refine AX ?_
 refine .cx rfl (λhc10=>?_) (λhc10=>?_)
 ·omega
 iterate 11 refine AX ?_
 refine .loopW (biZ n H) ((zK n).length) ⟨0,Nat.zero_le _,rfl,rfl,rfl⟩ sX (hRa _) ?_;rintro _ _ _ ⟨i,hi,rfl,rfl,hk⟩;iterate 6 refine AX ?_
 refine .cx rfl (λhc14=>?_) (λhc14=>?_)
 ·obtain⟨hs1,hs2,hs3⟩:=bfA (zL n) hl2 (i:=i) aA;have hs4:(zK n).getD i 0<18446744073709551616:=Nat.lt_trans (Limbs.getD (zL n) i) aC;iterate 14 refine AX ?_
  refine .p rfl (yL (i) U159 Z210 (tm rfl) (tm rfl) aA aA) ?_;refine AX ?_;refine .p rfl (qL U210 U25 (tm rfl) (wrapN64 aB)) ?_;refine AX ?_;refine .p rfl (.say (b:=.int .i64 ((32*i:Nat):Int)) (by congr 1<;>omega) (anV (zJ) (tm rfl) aA)) ?_;refine .p rfl (adC (tm rfl) (tm rfl) aA (by exact hs3)) (.p rfl (ahL (tm rfl) (tm rfl) aB aB) ?_);iterate 9 refine AX ?_
  refine Round.mk ⟨i+1,by omega,rfl,rfl,rfl⟩ (zF rfl (zU rfl (by rw[hs1]) sX)) (hRa _) aA
 iterate 14 refine AX ?_
 refine⟨?_,rfl⟩;rw[aZ aA,zR];rfl
end
def acU(r unit p q:Nat):Nat:=if r*q<unit*p then unit*p-r*q else r*q-unit*p
def tryN(r unit:Nat)(st:Nat×Nat)(p q:Nat):Nat×Nat:=if acU r unit p q*st.2<acU r unit st.1 st.2*q then(p,q)else st
def asD(r unit:Nat)(st:Nat×Nat)(q:Nat):Nat×Nat:=tryN r unit (tryN r unit st (r*q/unit) q) (r*q/unit+1) q
def yK(r unit:Nat):Nat→Nat×Nat
 |0=>(0,1)
 |n+1=>asD r unit (yK r unit n) (n+1)
def aaF(r unit most:Nat):Nat×Nat×Nat:=if yK r unit most=(1,1)then(1,0,1)else(0,(yK r unit most).1,(yK r unit most).2)
theorem blU{r unit q:Nat}:acU r unit (r*q/unit) q=r*q-r*q/unit*unit:=by
 unfold acU;have:=Nat.div_mul_le_self (r*q) unit;rw[bO unit,aJ]
theorem bqJ{r unit q:Nat}(hu:0<unit):acU r unit (r*q/unit+1) q=unit-(r*q-r*q/unit*unit):=by
 unfold acU;have h1:=Nat.div_mul_le_self (r*q) unit;have h2:=Nat.lt_div_mul_add (a:=r*q) hu;have h3:unit*(r*q/unit+1)=r*q/unit*unit+unit:=by rw[cB,bO,eR]
 rw[h3,aK];omega
theorem blT(r unit:Nat):acU r unit 0 1=r:=by unfold acU;simp
theorem bcE{r unit p q:Nat}{st:Nat×Nat}(h:(p,q)=st):tryN r unit st p q=st:=by
 subst h;unfold tryN;rw[aM aF]
theorem bcF{r unit p q:Nat}{st:Nat×Nat}:(tryN r unit st p q).2=q∨(tryN r unit st p q).2=st.2:=by
 unfold tryN;split
 ·exact .inl rfl
 exact .inr rfl
theorem alT(r unit n:Nat):1≤(yK r unit n).2∧(yK r unit n).2≤max 1 n:=by
 induction n with
 |zero=>exact⟨bB _,bB _⟩
 |succ n ih=>
  rw[yK,asD];rcases bcF (r:=r) (unit:=unit) (p:=r*(n+1)/unit+1) (q:=n+1) (st:=tryN r unit (yK r unit n) (r*(n+1)/unit) (n+1))with h|h
  ·rw[h];omega
  rw[h];rcases bcF (r:=r) (unit:=unit) (p:=r*(n+1)/unit) (q:=n+1) (st:=yK r unit n)with h|h<;>rw[h]<;>omega
theorem alS{r unit:Nat}(hr:r<unit)(n:Nat):(yK r unit n).1≤(yK r unit n).2:=by
 have lt:∀q,1≤q→r*q/unit+1≤q:=λq hq=>Nat.div_lt_of_lt_mul (Nat.mul_lt_mul_of_pos_right hr aA);induction n with
 |zero=>exact Nat.zero_le _
 |succ n ih=>
  have h1:=lt (n+1) aA;have key:∀(st:Nat×Nat)(p q:Nat),p≤q→st.1≤st.2→(tryN r unit st p q).1≤(tryN r unit st p q).2:=λst p q h h2=>by
   unfold tryN;split
   ·exact h
   exact h2
  rw[yK,asD];exact key _ _ _ h1 (key _ _ _ aA ih)
section
open Go Go.RowKit
set_option maxRecDepth 100000
theorem rTimesB(a b:Nat)(ha:a<BIG)(hb:b<BIG):Fn 77 [qE a,qE b] (qE (a*b)):=by
 intro H;have h:=adR (zK a) .shared (zL _) (by have:=yM ha;omega) (zK b) .shared (zL _) (by have:=yM hb;omega) H;rw[zR,zR]at h;exact h
theorem rCmpB(a b:Nat)(ha:a<BIG)(hb:b<BIG):Fn 160 [qE a,qE b] (.int .i64 (aqW a b)):=by
 intro H;have h:=asF (zK a) .shared (zL _) (by have:=yM ha;omega) (zK b) .shared (zL _) (by have:=yM hb;omega) H;rw[zR,zR]at h;exact h
theorem rLessB(a b:Nat)(ha:a<BIG)(hb:b<BIG)(hle:b≤a):Fn 161 [qE a,qE b] (qE (a-b)):=by
 intro H;have h:=apL (zK a) .shared (zL _) (by have:=yM ha;omega) (zK b) .shared (zL _) (by have:=yM hb;omega) (by rw[zR,zR];exact hle) H;rw[zR,zR]at h;exact h
theorem akY(a b:Nat):aqW a b<0↔a<b:=by unfold aqW;split<;>(try split)<;>omega
theorem byI(r unit p q:Nat):acU r unit p q≤max (r*q) (unit*p):=by unfold acU;split<;>omega
theorem ahC(a q:Nat)(ha:a<BIG)(hq:q≤100000)(hqB:q<BIG)(hb:a*q<BIG):Fn 190 [qE a,.int .i64 (q:Int)] (qE (a*q)):=by
 intro H;refine .of_body func190 rfl ntmps190 results190 rfl ?_;iterate 9 refine AX ?_
 refine .p rfl (qL U3 U25 (tm rfl) (wrap64 aA aA)) (.cl rfl C93 (evs1 rfl) (aeG q aA _) (.cl rfl C106 (evs2 rfl rfl) (mulB a q ha hqB hb _) ?_));iterate 15 refine AX ?_
 exact⟨rfl,rfl⟩
theorem ayD(r unit p q:Nat)(hr:r<BIG)(hu:unit<BIG)(hp:p≤100000)(hq:q≤100000)(hpB:p<BIG)(hqB:q<BIG)(h1:r*q<BIG)(h2:unit*p<BIG):Fn 257 [qE r,qE unit,.int .i64 (p:Int),.int .i64 (q:Int)] (qE (acU r unit p q)):=by
 intro H;refine .of_body func257 rfl ntmps257 results257 rfl ?_;iterate 9 refine AX ?_
 refine .p rfl (qL U3 U25 (tm rfl) (wrap64 aA aA)) (.cl rfl C116 (evs1 rfl) (adA q aA _) (.cl rfl C77 (evs2 rfl rfl) (rTimesB r q hr hqB _) ?_));iterate 7 refine AX ?_
 refine .p rfl (qL U3 U25 (tm rfl) (wrap64 aA aA)) (.cl rfl C116 (evs1 rfl) (adA p aA _) (.cl rfl C77 (evs2 rfl rfl) (rTimesB unit p hu hpB _) ?_));iterate 8 refine AX ?_
 refine .cl rfl call160 (evs2 rfl rfl) (rCmpB _ _ h1 h2 _) ?_;iterate 3 refine AX ?_
 refine .cx rfl (λhc24=>?_) (λhc24=>?_)
 ·iterate 4 refine AX ?_
  refine .cl rfl call161 (evs2 rfl rfl) (rLessB _ _ h2 h1 (eS ((akY _ _).1 hc24)) _) ?_;iterate 6 refine AX ?_
  refine⟨?_,rfl⟩;unfold acU;rw[aN ((akY _ _).1 hc24)];rfl
 iterate 6 refine AX ?_
 refine .cl rfl call161 (evs2 rfl rfl) (rLessB _ _ h1 h2 (Nat.le_of_not_lt (λw=>absurd ((akY _ _).2 w) aA)) _) ?_;iterate 5 refine AX ?_
 refine⟨?_,rfl⟩;unfold acU;rw[aM (λw=>absurd ((akY _ _).2 w) aA)];rfl
theorem anB(r unit p q n d:Nat)(hr:r<BIG)(hu:unit<BIG)(hB0:100000<BIG)(hp:p≤10000)(hq:q≤10000)(hn:n≤10000)(hd:d≤10000)(hB:∀a b,a≤10000→b≤10000→r*b<BIG∧unit*a<BIG)(hO:∀a b,a≤10000→b≤10000→acU r unit a b<BIG)(hO2:∀a b c,a≤10000→b≤10000→c≤10000→acU r unit a b*c<BIG):Fn 210 [qE r,qE unit,.int .i64 (p:Int),.int .i64 (q:Int),.int .i64 (n:Int),.int .i64 (d:Int)] (.bool (decide (acU r unit p q*d<acU r unit n d*q))):=by
 intro H;refine .of_body func210 rfl ntmps210 results210 rfl ?_;iterate 11 refine AX ?_
 refine .cl rfl call257 (.cons (tm rfl) (evs3 rfl rfl rfl)) (ayD r unit p q hr hu aA aA aA aA (hB _ _ aA aA).1 (hB _ _ aA aA).2 _) ?_;refine AX ?_;refine .p rfl (qL U3 U25 (tm rfl) (wrap64 aA aA)) (.cl rfl C116 (evs1 rfl) (adA d aA _) (.cl rfl C77 (evs2 rfl rfl) (rTimesB _ d (hO _ _ aA aA) aA _) ?_));iterate 9 refine AX ?_
 refine .cl rfl call257 (.cons (tm rfl) (evs3 rfl rfl rfl)) (ayD r unit n d hr hu aA aA aA aA (hB _ _ aA aA).1 (hB _ _ aA aA).2 _) ?_;refine AX ?_;refine .p rfl (qL U3 U25 (tm rfl) (wrap64 aA aA)) (.cl rfl C116 (evs1 rfl) (adA q aA _) (.cl rfl C77 (evs2 rfl rfl) (rTimesB _ q (hO _ _ aA aA) aA _) ?_));iterate 7 refine AX ?_
 refine .cl rfl call160 (evs2 rfl rfl) (rCmpB _ _ (hO2 _ _ _ aA aA aA) (hO2 _ _ _ aA aA aA) _) ?_;iterate 6 refine AX ?_
 exact⟨congrArg AV.bool (aO.2 (akY _ _)),rfl⟩
end
theorem boN:∃k:Nat,k=2500∧BIG<10^k:=⟨2500,rfl,by unfold BIG;decide+kernel⟩
theorem bbG(ds:List UInt8):(avC ds).length≤ds.length:=aqL _ _
theorem bmG(ds:List UInt8):ahR ds≤ds.length:=by unfold ahR;have:=bbG ds;omega
theorem blW(neg:Bool){e:Int}(hm:m<18014398509481984)(he: -1075≤e∧e≤972): -1075≤(ofN neg m e).2.2∧(ofN neg m e).2.2≤2500:=by
 obtain⟨K,hK,hB⟩:=boN;have h1:=blV hm he;have h2:(dec (ofR m e)).length≤K:=(adI aA).2 (Nat.lt_trans h1 hB);have h3:=bmG (dec (ofR m e));have h4: -1075≤ofX m e∧ofX m e≤0:=by
  unfold ofX;have:=(anQ (-e).toNat m).2;split<;>omega
 rw[blX];unfold mkN;split
 ·simp
 split
 ·simp only;omega
 simp
theorem bpG{x:Nat}(hk:yZ x<3):(anR x 15).2=0∧ -2000≤(anR x 15).1.2.2∧(anR x 15).1.2.2≤5000:=by
 have hm:=agP x;have hp:=acE x;have he:=blW (ahQ x) (m:=zT x) (e:=zH x) aA hp;have hr:=akH (ahQ x) (zT x) (zH x);have hl:=(yO hr).1;unfold anR;rw[aJ];unfold agF;rw[aJ];generalize ofN (ahQ x) (zT x) (zH x)=o at *;obtain⟨ng,ds,e⟩:=o
 dsimp only at he hr hl ⊢
 unfold boR;split
 ·exact⟨rfl,by show-2000≤e;omega,by show e≤5000;omega⟩
 rename_i hlen
 unfold bhM;have hs:∀s:List UInt8,s.length≤16→(mkN ng s (e+ds.length-15)).2=0∧ -2000≤(mkN ng s (e+ds.length-15)).1.2.2∧(mkN ng s (e+ds.length-15)).1.2.2≤5000:=by
  intro s hs;have h1:=bmG s;have h2:(abX s).length≤s.length:=bH (afV _ _) (bbG s);unfold mkN;split
  ·simp
  split
  ·exact⟨rfl,by show-2000≤e+(ds.length:Int)-15+(ahR s:Int);omega,by show e+(ds.length:Int)-15+(ahR s:Int)≤5000;omega⟩
  rename_i h;exact absurd (show okD s (e+ds.length-15)from⟨by omega,by omega,by omega⟩) h
 refine hs _ ?_;split
 ·refine bH (akP _) ?_;rw[aU];omega
 rw[aU];omega
theorem bwL{l:Loc}(hk:l.ok){e:Int}(hr:yN ds e=true)(hlen:ds.length≤16)(he: -2000≤e∧e≤5000):(beG l ((neg,ds,e),0)).length≤900:=by
 obtain⟨h1,h2,h3,h4,h5⟩:=hk;have hm:(if neg=true then l.minus else []).length≤10:=by split;exact h3;simp
 unfold beG;simp only[ne_eq,not_true_eq_false,if_false];have hp9:=he;split
 ·rename_i hp
  have hp2:(ds.length:Int)+e≤15∧ -4≤(ds.length:Int)+e:=by
   rcases hp with rfl|hp
   ·have:e=0:=by simpa[yN]using hr
    subst this;exact⟨by simp,by simp⟩
   exact⟨hp.2,hp.1⟩
  have hs:(aaM ds ((ds.length:Int)+e)).1.1.length≤100∧(aaM ds ((ds.length:Int)+e)).1.2.length≤100:=by
   unfold aaM;split
   ·simp
   split
   ·simp only[aX,aY,aR,bA];omega
   split
   ·simp only[aY,aR,bA];omega
   simp only[aU,bC];omega
  have h6:(if(aaM ds ((ds.length:Int)+e)).1.2=[]then []else l.dc++(aaM ds ((ds.length:Int)+e)).1.2).length≤110:=by
   by_cases q:(aaM ds ((ds.length:Int)+e)).1.2=[]
   ·rw[aN q];simp
   rw[aM q,aR];omega
  unfold afE;by_cases q:(aaM ds ((ds.length:Int)+e)).2=true
  ·rw[aN q,aR,aR];omega
  rw[aM q];simp
 have hd:(dec (amC ((ds.length:Int)+e))).length≤8:=(adI aC).2 (by unfold amC;split<;>omega);have h0:(if(dec (amC ((ds.length:Int)+e))).length<2 then([48]:List UInt8)else []).length≤1:=by split<;>simp
 have h6:(if(1:Int)<(ds.length:Int)then l.dc++ds.drop 1 else []).length≤110:=by
  by_cases q:(1:Int)<(ds.length:Int)
  ·rw[aN q,aR,bC];omega
  rw[aM q];simp
 unfold ajJ;simp only[aR,aX,aY,aU];omega
theorem awO{l:Loc}(hk:l.ok){x:Nat}(hx:yZ x<3):(beG l (anR x 15)).length≤900:=by
 obtain⟨h1,h2,h3⟩:=bpG hx;have hr:=alL x 15;have hl2:=atQ x 15;generalize hs:anR x 15=s at *;obtain⟨⟨ng,ds,e⟩,er⟩:=s
 dsimp only at h1 h2 h3 hr hl2 ⊢
 subst h1;exact bwL hk hr aA ⟨h2,h3⟩
def aeF(l:List ItN):Nat→Nat
 |0=>0
 |k+1=>if aaU l k=2 then aeF l k else k+1
theorem avG(l:List ItN)(k:Nat):aeF l k≤k:=by
 induction k with
 |zero=>exact bB _
 |succ k ih=>rw[aeF];split<;>omega
def abK(x:Nat):Nat:=x%9223372036854775808
def yW(l:List ItN):Nat:=yC l [6]
def abH(l:List ItN):List Nat:=acN l (yW l) l.length
def auV(l:List ItN):List Nat:=acN l (aeF l (yW l)) (yW l)
def afP(l:List ItN):List Nat:=acN l 0 (aeF l (yW l))
def adE(l:List ItN):Nat:=10^(abH l).length-1
def afB(x most:Nat):(Bool×List UInt8×Int)×Nat×Nat:=
 if 0≤zH x then(ofN (ahQ x) (zT x) (zH x),0,1)
 else(ofN (ahQ x) (zT x/2^(-zH x).toNat+(aaF (zT x%2^(-zH x).toNat) (2^(-zH x).toNat) most).1) 0,(aaF (zT x%2^(-zH x).toNat) (2^(-zH x).toNat) most).2)
def afY(d:Bool×List UInt8×Int):List UInt8:=(arT d 0).1
def bhH(n:Nat):List UInt8:=if n=0 then []else dec n
def avW(r:(Bool×List UInt8×Int)×Nat×Nat):Nat:=num (48::afY r.1)*r.2.2+r.2.1
def alI(a b:Nat)(q:List Pc):List Pc:=q.mapIdx λj p=>if a≤j∧j<b then .fx []else p
def anL(l:List ItN)(gr:Bool)(o:Loc)(r:(Bool×List UInt8×Int)×Nat×Nat)(q:List Pc):List Pc:=
 if(afP l).length=0 then abW l (qV o gr) (bhH (avW r)) true false (auV l) (q.set ((abH l).getD 0 0) (.fx (dec r.2.2)))
 else if r.2.1=0 then alI ((afP l).getD ((afP l).length-1) 0+1) ((abH l).getD ((abH l).length-1) 0+1) (abW l (qV o gr) (afY r.1) true false (afP l) (q.set ((abH l).getD 0 0) (.fx (dec r.2.2))))
 else abW l (qV o gr) (dec r.2.1) true false (auV l) (abW l (qV o gr) (afY r.1) true false (afP l) (q.set ((abH l).getD 0 0) (.fx (dec r.2.2))))
def ayF(l:List ItN)(r:(Bool×List UInt8×Int)×Nat×Nat):Bool:=
 if(afP l).length=0 then decide (bhH (avW r)≠[])||decide (afY r.1≠[])
 else if r.2.1=0 then decide (afY r.1≠[])else true
def qI(o:Loc)(s:SecN)(x:Nat):List Pc×Bool:=
 if zY s=6 then(avX s.items 8 (beG o (anR x 15)) s.items.length (s.items.map (abY o)),false)
 else if zY s=5 then(avX s.items 7 (beG o (anR (abK x) 15)) s.items.length (s.items.map (abY o)),decide (beG o (anR (abK x) 15)≠[48]))
 else if zY s=2∨zY s=3 then(boT s.items s.grouped s.scale o (agF (abK x)).1.1 (agF (abK x)).1.2.1 (agF (abK x)).1.2.2 (s.items.map (abY o)),decide ((akI s.items s.scale (agF (abK x)).1.1 (agF (abK x)).1.2.1 (agF (abK x)).1.2.2).2.1≠[]))
 else if zY s=4 then(anL s.items s.grouped o (afB (abK x) (adE s.items)) (s.items.map (abY o)),ayF s.items (afB (abK x) (adE s.items)))
 else(s.items.map (abY o),false)
def yV(o:Loc)(p:List SecN)(x:Nat):List UInt8×Int:=
 if aaN p=false then([],12)else if 3≤yZ x then([],11)
 else((if(qI o (aqU p x) x).2=true∧x/9223372036854775808=1∧p.length=1 then o.minus else [])++afA (qI o (aqU p x) x).1,0)
/-! ### how long it may be -/
theorem bpR{mk:Nat→List UInt8}(h:∀k,(mk k).length≤m)(s:List UInt8)(last:Nat):(aqV mk s last).length≤s.length*(m+1):=by
 induction s with
 |nil=>exact Nat.zero_le _
 |cons x r ih=>
  have:=h (last+r.length);rw[aqV,aR,aX,aX,cC];omega
theorem akK{o:Loc}(ho:o.ok)(g:Bool)(k:Nat):(qV o g k).length≤10:=by
 unfold qV;split
 ·exact ho.2.1
 simp
theorem afX{q:List Pc}{x:Pc}(hx:x.txt.length≤m)(h:∀p,p∈q→p.txt.length≤m):∀p,p∈q.set k x→p.txt.length≤m:=λp hp=>by
 rcases List.mem_or_eq_of_mem_set hp with h1|h1
 ·exact h p h1
 rw[h1];exact hx
theorem afF{mk:Nat→List UInt8}{row:List UInt8}(hm:∀k,(mk k).length≤10)(hr:row.length*11+11≤m)(fst z:Bool)(r:List Nat)(q:List Pc)(h:∀p,p∈q→p.txt.length≤m):∀p,p∈abW l mk row fst z r q→p.txt.length≤m:=by
 induction r generalizing fst z q with
 |nil=>exact h
 |cons k r ih=>
  rw[abW];refine ih _ _ _ (afX ?_ h);have h1:=hm r.length;have h2:=bpR hm (abO row fst r.length) r.length;have h3:=bbB row fst r.length;have h4:(abO row fst r.length).length*11≤row.length*11:=bG 11 h3;split
  ·simp only[Pc.txt];repeat' split
   all_goals simp only[aX,aY]
   all_goals omega
  simp only[Pc.txt];omega
theorem auT{row:List UInt8}(hm:1≤m)(la i:Nat)(r:List Nat)(q:List Pc)(h:∀p,p∈q→p.txt.length≤m):∀p,p∈aaT l row la i r q→p.txt.length≤m:=by
 induction r generalizing i q with
 |nil=>exact h
 |cons k r ih=>
  rw[aaT];refine ih _ _ (afX ?_ h);split
  ·simpa[Pc.txt]using hm
  simp only[Pc.txt];repeat' split
  all_goals simp only[aX,aY]
  all_goals omega
theorem azN{a b:Nat}{q:List Pc}(h:∀p,p∈q→p.txt.length≤m):∀p,p∈alI a b q→p.txt.length≤m:=by
 intro p hp;unfold alI at hp;obtain⟨i,hi,rfl⟩:=cW hp;rw[bZ];split
 ·simp[Pc.txt]
 exact h _ (bM _)
theorem acG(l:List ItN)(mk:Nat→List UInt8)(row:List UInt8)(fst z:Bool)(r:List Nat)(q:List Pc):(abW l mk row fst z r q).length=q.length:=by
 induction r generalizing fst z q with
 |nil=>rfl
 |cons k r ih=>rw[abW,ih,bR]
theorem avZ(a b:Nat)(q:List Pc):(alI a b q).length=q.length:=by unfold alI;simp
/-! ### the walk's facts -/
theorem beH(h:¬(0<k∧aaU l (k-1)=2)):aeF l k=k:=by
 cases k with
 |zero=>rfl
 |succ k=>rw[aeF,aM (λq=>h ⟨by omega,by simpa using q⟩)]
theorem aqF(h:0<k∧aaU l (k-1)=2):aeF l (k-1)=aeF l k:=by
 cases k with
 |zero=>omega
 |succ k=>rw[aeF,aN (by simpa using h.2)];rfl
theorem brM{n:Nat}(h:0<n):(dec n).dropWhile (·==48)=dec n:=by
 induction n using Nat.strongRecOn with
 |ind n ih=>
  rcases bV n 10 with h1|h1
  ·rw[ahY h1];rcases(by omega:n=1∨n=2∨n=3∨n=4∨n=5∨n=6∨n=7∨n=8∨n=9)with rfl|rfl|rfl|rfl|rfl|rfl|rfl|rfl|rfl<;>rfl
  have h2:=ih (n/10) aA aA;rw[akU h1,List.dropWhile_append,h2,aM (by have:=avJ (n/10);intro q;rw[List.isEmpty_iff]at q;rw[q]at this;simp at this)]
theorem brK(n:Nat):(dec n).dropWhile (·==48)=bhH n:=by
 unfold bhH;split
 ·rename_i h;subst h;rw[ahY aC];rfl
 exact brM aA
theorem blZ(k:Nat):num (List.replicate k 57)=10^k-1:=by
 induction k with
 |zero=>rfl
 |succ k ih=>
  rw[List.replicate_succ',alY,ih];have:0<10^k:=cJ aC;have e:num [57]=9:=rfl;rw[e,bW];show(10^k-1)*10^1+9=_;omega
theorem bmE(k:Nat):Digs (List.replicate k 57):=λc hc=>by
 rw[fC hc];unfold isD;decide
theorem bqN{e:Int}(hd:Digs ds):yF (mkN neg ds e).1.2.1 (mkN neg ds e).1.2.2≤max 0 ((ds.length:Int)+e):=by
 have h:=qQ (anZ (neg:=neg) (e:=e) hd);rw[h];have h1:=bbG ds;have h2:(abX ds).length≤(avC ds).length:=afV _ _;unfold mkN;split
 ·simp;omega
 split
 ·show((abX ds).length:Int)+(e+ahR ds)≤_;unfold ahR;omega
 simp;omega
theorem buP:∃k j:Nat,k=310∧j=972∧18014398509481984*2^j<10^k:=⟨310,972,rfl,rfl,by decide+kernel⟩
theorem axT{e:Int}(hm:m<18014398509481984)(he:0≤e∧e≤972):yF (ofN neg m e).2.1 (ofN neg m e).2.2≤310:=by
 obtain⟨K,J,hK,hJ,hB⟩:=buP;unfold ofN;rw[aN he.1];have h1:m*2^e.toNat≤18014398509481984*2^J:=eU aA (bS aC aA);have h2:(dec (m*2^e.toNat)).length≤K:=(adI aA).2 (bI h1 hB);have h3:=bqN (neg:=neg) (e:=0) (akV (m*2^e.toNat));omega
theorem asE(x:Nat)(hm:1≤most∧most≤9999):yN (afB x most).1.2.1 (afB x most).1.2.2=true∧yF (afB x most).1.2.1 (afB x most).1.2.2≤310∧(afB x most).2.1≤9999∧1≤(afB x most).2.2∧(afB x most).2.2≤9999:=by
 have hp:=agP x;have he:=acE x;unfold afB;split
 ·exact⟨akH _ _ _,axT aA ⟨by assumption,he.2⟩,Nat.zero_le _,bB _,by show 1≤9999;decide⟩
 have hr:zT x%2^(-zH x).toNat<2^(-zH x).toNat:=bX _ (cJ aC);have h1:=alT (zT x%2^(-zH x).toNat) (2^(-zH x).toNat) most;have h2:=alS hr most;have h3:zT x/2^(-zH x).toNat≤zT x:=eY _ _;have h4:(aaF (zT x%2^(-zH x).toNat) (2^(-zH x).toNat) most).1≤1∧(aaF (zT x%2^(-zH x).toNat) (2^(-zH x).toNat) most).2.1≤9999∧1≤(aaF (zT x%2^(-zH x).toNat) (2^(-zH x).toNat) most).2.2∧(aaF (zT x%2^(-zH x).toNat) (2^(-zH x).toNat) most).2.2≤9999:=by
  unfold aaF;split
  ·decide
  exact⟨Nat.zero_le _,by show(yK _ _ _).1≤_;omega,h1.1,by show(yK _ _ _).2≤_;omega⟩
 exact⟨akH _ _ _,axT aA ⟨by omega,by omega⟩,h4.2.1,h4.2.2.1,h4.2.2.2⟩
theorem bfF(ds:List UInt8)(p:Int)(k:Nat):(adW ds p k).1.length≤p.toNat:=by
 unfold adW;split
 ·simp
 rw[aU];omega
theorem azS(hd:Digs ds)(p:Int)(k:Nat):Digs (adW ds p k).1:=by
 unfold adW;split
 ·intro c hc;cases hc
 intro c hc;have h0:isD 48:=by unfold isD;decide
 rcases eA.1 (fA hc)with h|h
 ·rcases eA.1 h with h|h
  ·rw[fC h];exact h0
  exact hd c h
 rw[fC h];exact h0
theorem auJ(x:Nat)(hm:1≤most∧most≤9999):Digs (48::afY (afB x most).1)∧(afY (afB x most).1).length≤310:=by
 obtain⟨h1,h2,_⟩:=asE x hm;refine⟨λc hc=>?_,?_⟩
 ·rcases dI.1 hc with rfl|hc
  ·unfold isD;decide
  exact azS (qK h1) _ _ c hc
 have:=bfF (afB x most).1.2.1 (yF (afB x most).1.2.1 (afB x most).1.2.2) 0;unfold afY arT;omega
theorem bpY:∃k:Nat,k=311∧10^k*10000+10000<BIG:=⟨311,rfl,by unfold BIG;decide+kernel⟩
theorem azO(x:Nat)(hm:1≤most∧most≤9999):num (48::afY (afB x most).1)<BIG∧num (48::afY (afB x most).1)*(afB x most).2.2<BIG∧avW (afB x most)<BIG∧(bhH (avW (afB x most))).length≤2500:=by
 obtain⟨K,hK,hB⟩:=bpY;obtain⟨h1,h2⟩:=auJ x hm;obtain⟨_,_,h3,_,h5⟩:=asE x hm;have h6:=asO h1;have h7:10^(48::afY (afB x most).1).length≤10^K:=bS aC aG;have h8:num (48::afY (afB x most).1)*(afB x most).2.2≤10^K*10000:=eU aA aA;have h9:avW (afB x most)<BIG:=by unfold avW;omega
 refine⟨by omega,by omega,h9,?_⟩;unfold bhH;split
 ·simp
 obtain⟨K2,hK2,hB2⟩:=boN;have:=(adI (n:=avW (afB x most)) (k:=K2) aA).2 (Nat.lt_trans h9 hB2);omega
theorem buM(a:Nat)(q:List Pc):alI a a q=q:=by
 unfold alI;refine cR aF λj h1 h2=>?_;rw[bZ,aJ]
theorem buL{a b:Nat}(q:List Pc)(h:a≤b):(alI a b q).set b (.fx [])=alI a (b+1) q:=by
 unfold alI;refine cR aF λj h1 h2=>?_;rw[List.getElem_set,bZ,bZ];by_cases e:b=j
 ·subst e;rw[aN rfl,aK]
 rw[aM e];by_cases c:a≤j∧j<b
 ·rw[aN c,aK]
 rw[aM c,aJ]
end Go.Proofs.YteedncdcbgplfaaGreatDoor
