import Derived.Test.YteedncdcbgplfaaGreatDoorQ3
set_option maxHeartbeats 1000000
namespace Go.Proofs.YteedncdcbgplfaaGreatDoor
open Go.Proofs.Tryz
open Go Go.RowKit
variable{i m n v:Nat}{more:Bool}{k:Int}{ds:List UInt8}
section
set_option maxRecDepth 100000
theorem bmM{y:Nat}(h:0<y):yN y=yN (y/2)+1:=by
 rcases bX y 2 with q|q
 ·have:y=1:=by omega
  subst this;rfl
 have:=afH (n:=y) (k:=1) (m:=y/2) aA rfl;omega
theorem bwR{a m k:Nat}:a/2^m%2^(k+1)=2*(a/2^(m+1)%2^k)+a/2^m%2:=by
 rw[bP 2 m,←cC,bP 2 k,bM (2^k),Nat.mod_mul];omega
theorem bjP(h:v%2^i=0):v%2^(i+1)=2^i*(v/2^i%2):=by
 rw[bP,Nat.mod_mul,h,bZ]
theorem caQ(h:v%2^i=0)(hn:i=n∨v<2^i)(hin:i≤n):v%2^n=0:=by
 rcases hn with rfl|hn
 ·exact h
 rw[bH hn]at h;subst h;exact Nat.zero_mod _
theorem chJ(hin:i<n)(h:v%2^i=0)(hb:v/2^i%2=1):v%2^n≠0:=by
 intro q;have h1:=bjP h;rw[hb,fB]at h1;have h2:v%2^(i+1)=0:=by
  have:=Nat.mod_mod_of_dvd v (Nat.pow_dvd_pow 2 (show i+1≤n by omega));rw[q]at this;rw[←this];exact Nat.zero_mod _
 have:=bL (n:=i) (show 0<2 by decide);omega
def cdU(v:Nat)(H:Heap):Nat→Env→Heap→Prop:=λk env H1=>∃(i y:Nat),i+yN y=yN ((zF v).getD ((zF v).length-1) 0)∧y<4294967296∧env=[(4,.int .i64 (32*(((zF v).length:Int)-1)+(i:Int))),(5,.int .u32 (y:Int))]∧H=H1∧k=yN y
theorem ahE(xs:List Nat)(tl:Tail)(hx:Limbs xs)(hl:xs.length≤100000):Fn 79 [.slice 1 (U .u32 xs) tl] (.int .i64 (yN (val xs):Int)):=by
 intro H;have hT:=aaO xs tl hx aA;have hvl:(zF (val xs)).length≤xs.length:=by rw[←abD hx];exact aaR xs
 generalize val xs=v at *;have hgt:=Limbs.getD (zH v) ((zF v).length-1);have hb32:=(qI (n:=((zF v).getD ((zF v).length-1) 0)) (k:=32)).2 (by rw[show(2:Nat)^32=4294967296 by decide];exact hgt);refine .of_body func79 rfl ntmps79 results79 rfl ?_;iterate 8 refine AX ?_
 refine .cl rfl C158 (evs1 rfl) (hT _) ?_;iterate 11 refine AX ?_
 refine .cx rfl (λhc10=>?_) (λhc10=>?_)
 ·have hv0:v=0:=by
   rcases bF v with h|h
   ·exact h
   rw[qV h]at hc10;simp only[aW]at hc10;omega
  iterate 8 refine AX ?_
  refine⟨?_,rfl⟩;subst hv0;rfl
 have hvp:0<v:=by
  rcases bF v with h|h
  ·subst h;exact absurd rfl hc10
  exact h
 have hbl:=akI hvp;have hlp:0<(zF v).length:=by rw[qV hvp];simp
 iterate 17 refine AX ?_
 refine .p rfl (zV ((zF v).length-1) U135 Z210 (tm rfl) (tm rfl) aA aA) ?_;iterate 6 refine AX ?_
 refine .loopW (cdU v H) (yN ((zF v).getD ((zF v).length-1) 0)) ⟨0,((zF v).getD ((zF v).length-1) 0),by omega,hgt,rfl,rfl,rfl⟩ (zR rfl (by congr 1;try omega) (zK rfl yF)) (hRa _) ?_;rintro _ _ _ ⟨i,y,hi,hy,rfl,rfl,rfl⟩;iterate 7 refine AM ?_
 refine .cx rfl (λhc22=>?_) (λhc22=>?_)
 ·iterate 12 refine AX ?_
  refine .p rfl (bmV (tm rfl) (yB 2) aB aA) ?_;iterate 4 refine AX ?_
  have hbh:=bmM (y:=y) aA;refine Round.mk ⟨i+1,y/2,by omega,by omega,rfl,rfl,rfl⟩ (zR rfl (by congr 1;try omega) (zK rfl yF)) (hRa _) aA
 have hy0:y=0:=by omega
 subst hy0;rw[bwP]at hi;iterate 13 refine AX ?_
 refine⟨?_,rfl⟩;show AV.int .i64 _=AV.int .i64 _;congr 1;omega
def bvN(xs:List Nat)(tl:Tail)(n:Nat)(q:Int)(H:Heap):Nat→Env→Heap→Prop:=λk env H1=>∃c:Nat,c≤64∧env=[(0,.slice 1 (U .u32 xs) tl),(1,.int .i64 q),(5,.int .u64 ((val xs/2^(n+c)%2^(64-c):Nat):Int)),(6,.int .i64 ((c:Int)-1))]∧H=H1∧c=k
theorem arG(xs:List Nat)(tl:Tail)(hx:Limbs xs)(hl:xs.length≤100000)(n:Nat)(hn:n≤100000000)(q:Int)(hq:q=(n:Int)):Fn 155 [.slice 1 (U .u32 xs) tl,.int .i64 q] (.int .u64 ((val xs/2^n%18446744073709551616:Nat):Int)):=by
 intro H;subst hq;refine .of_body func155 rfl ntmps155 results155 rfl ?_;iterate 13 refine AM ?_
 iterate 4 refine AX ?_
 refine .loopW (bvN xs tl n (n:Int) H) (64) ⟨64,aZ _,rfl,rfl,rfl⟩ (zK rfl (zK rfl (zR rfl (by simp[Nat.mod_one]) (zK rfl yF)))) (hRa _) ?_;rintro _ _ _ ⟨c,hc,rfl,rfl,rfl⟩;iterate 7 refine AX ?_
 refine .cx rfl (λhc8=>?_) (λhc8=>?_)
 ·have hbn:val xs/2^(n+(c-1))%2^(64-(c-1))=2*(val xs/2^(n+c)%2^(64-c))+val xs/2^(n+(c-1))%2:=by
   have:=@bwR (val xs) (n+(c-1)) (64-c);rw[show 64-c+1=64-(c-1) by omega,show n+(c-1)+1=n+c by omega]at this;exact this
  have hlt:val xs/2^(n+c)%2^(64-c)<9223372036854775808:=bQ (bR _ (bL aC)) (bC (bB aC (show 64-c≤63 by omega)) aC);iterate 7 refine AX ?_
  refine .p rfl (adP (yB 2) (tm rfl) aA) ?_;iterate 9 refine AX ?_
  refine .cl rfl C156 (evs2 rfl rfl) (ahF xs tl hx aA (n+(c-1)) aA _ aA _) ?_;iterate 2 refine AX ?_
  refine .cx rfl (λhc17=>?_) (λhc17=>?_)
  ·iterate 9 refine AM ?_
   iterate 4 refine AX ?_
   refine Round.mk ⟨c-1,by omega,rfl,rfl,rfl⟩ (zK rfl (zK rfl (zR rfl (congrArg (λw:Nat=>AV.int .u64 (w:Int)) (show _=val xs/2^(n+(c-1))%2^(64-(c-1)) by omega)) (zR rfl (by congr 1;omega) yF)))) (hRa _) aA
  iterate 9 refine AX ?_
  refine Round.mk ⟨c-1,by omega,rfl,rfl,rfl⟩ (zK rfl (zK rfl (zR rfl (congrArg (λw:Nat=>AV.int .u64 (w:Int)) (show _=val xs/2^(n+(c-1))%2^(64-(c-1)) by omega)) (zR rfl (by congr 1;omega) yF)))) (hRa _) aA
 have hc0:c=0:=by omega
 subst hc0;iterate 13 refine AX ?_
 refine⟨?_,rfl⟩;rw[cA,gU,show(2:Nat)^64=18446744073709551616 by decide];rfl
def ckY(xs:List Nat)(tl:Tail)(n:Nat)(H:Heap):Nat→Env→Heap→Prop:=λk env H1=>∃i:Nat,i≤n∧val xs%2^i=0∧env=[(0,.slice 1 (U .u32 xs) tl),(1,.int .i64 (n:Int)),(5,.int .i64 (i:Int))]∧H=H1∧k=n-i
theorem bmC(xs:List Nat)(tl:Tail)(hx:Limbs xs)(hl:xs.length≤100000)(n:Nat)(_:n≤100000000)(q:Int)(hq:q=(n:Int)):Fn 157 [.slice 1 (U .u32 xs) tl,.int .i64 q] (.bool (decide (val xs%2^n≠0))):=by
 intro H;subst hq;refine .of_body func157 rfl ntmps157 results157 rfl ?_;iterate 12 refine AX ?_
 refine .loopW (ckY xs tl n H) (n) ⟨0,Nat.zero_le _,by simp[Nat.mod_one],rfl,rfl,rfl⟩ sX (hRa _) ?_;rintro _ _ _ ⟨i,hi,hl0,rfl,rfl,rfl⟩;refine AX ?_;refine .seqTo 15 (.bool (decide ((i:Int)<(n:Int))&&decide ((i:Int)<32*(xs.length:Int)))) [0,1,5] ?_ ?_
 ·iterate 5 refine AX ?_
  refine zD (t:=9) rfl (λhg9=>?_) (λhg9=>?_)
  ·iterate 7 refine AX ?_
   exact⟨rfl,zS rfl (by(rw[show decide ((i:Int)<(n:Int))=_ from hg9];rfl)) sX,rfl⟩
  iterate 7 refine AX ?_
  exact⟨rfl,zS rfl (by(rw[show decide ((i:Int)<(n:Int))=_ from hg9];rfl)) sX,rfl⟩
 refine .sub [(15,_),(0,_),(1,_),(5,_)] sX ?_;refine .cx rfl (λhc15=>?_) (λhc15=>?_)
 ·simp only[bN,aT]at hc15;iterate 8 refine AX ?_
  refine .cl rfl C156 (evs2 rfl rfl) (ahF xs tl hx aA i aA _ rfl _) ?_;iterate 2 refine AX ?_
  refine .cx rfl (λhc20=>?_) (λhc20=>?_)
  ·iterate 12 refine AX ?_
   refine⟨?_,rfl⟩;rw[aU (chJ aA hl0 aA)];rfl
  iterate 9 refine AX ?_
  refine Round.mk ⟨i+1,by omega,by rw[bjP hl0,show val xs/2^i%2=0 by omega,dJ],rfl,rfl,rfl⟩ sX (hRa _) aA
 simp only[cJ,aR]at hc15;have hvl:=aeO hx;rw[show(4294967296:Nat)=2^32 by decide,←dV]at hvl;have hov:val xs%2^n=0:=caQ hl0 (by rcases hc15 with h|h;exact .inl aA;exact .inr (bQ hvl (bB aC aA))) hi;iterate 12 refine AX ?_
 refine⟨?_,rfl⟩;rw[aS (by rw[hov];simp)];rfl
end
section
open Go Go.RowKit
set_option maxRecDepth 100000
theorem ccP{xs:List Nat}(hx:Limbs xs):yN (val xs)≤32*xs.length:=qI.2 (by have:=aeO hx;rw[show(4294967296:Nat)=2^32 by decide,←dV]at this;exact this)
theorem caP{e:Int}(h:e<yC v e):abX v e more=if(decide (((v/2^(((yC v e-e).toNat)-1)%2:Nat):Int)=1)&&((decide (v%2^(((yC v e-e).toNat)-1)≠0)||more)||decide (((v/2^((yC v e-e).toNat)%2:Nat):Int)=((1:Nat):Int))))=true then v/2^((yC v e-e).toNat)+1 else v/2^((yC v e-e).toNat):=by
 rw[buG h];simp only[bN,dB,aT,or_assoc];congr 1;refine propext ⟨λq=>⟨by omega,q.2.imp_right (Or.imp_right (λw=>by omega))⟩,λq=>⟨by omega,q.2.imp_right (Or.imp_right (λw=>by omega))⟩⟩
theorem aoU(neg:Bool)(xs:List Nat)(tl:Tail)(hx:Limbs xs)(hl:xs.length≤10000)(e:Int)(he: -10000≤e∧e≤1000000)(more:Bool):Fn 76 [.bool neg,.slice 1 (U .u32 xs) tl,.int .i64 e,.bool more] (.int .u64 ((yD neg (val xs) e more:Nat):Int)):=by
 intro H;have hbl:yN (val xs)≤320000:=by have:=ccP hx;omega
 have hb0:=@blen0 (val xs);have hun:yC (val xs) e=if e+yN (val xs)-53< -1074 then-1074 else e+yN (val xs)-53:=rfl
 have hul:=apM (val xs) e;have hur:yC (val xs) e≤2000000:=by rw[hun];split<;>omega
 have hml:=ajA (val xs) e more;have hsg:abA neg≤9223372036854775808:=by unfold abA;split<;>omega
 refine .of_body func76 rfl ntmps76 results76 rfl ?_;iterate 10 refine AM ?_
 refine .seqToL [(9,.int .u64 ((abA neg:Nat):Int))] [1,2,3,8] ?_ ?_
 ·iterate 5 refine AX ?_
  refine .cx rfl (λhc16=>?_) (λhc16=>?_)
  ·iterate 3 refine AM ?_
   exact⟨rfl,(zR rfl (by(unfold abA;rw[aN aB];done)) sX),rfl⟩
  refine AX ?_;exact⟨rfl,(zR rfl (by(unfold abA;rw[aM aI];done)) sX),rfl⟩
 refine .sub [(9,_),(1,_),(2,_),(3,_),(8,_)] sX ?_;iterate 3 refine AX ?_
 refine .cl rfl C79 (evs1 rfl) (ahE xs tl hx aA _) ?_;iterate 4 refine AX ?_
 refine .seqTo 30 (.bool (decide (val xs=0))) [9,1,2,3,8,10] ?_ ?_
 ·iterate 4 refine AX ?_
  refine zD (t:=21) rfl (λhg21=>?_) (λhg21=>?_)
  ·have hh21:=hg21;try simp only[aT]at hh21
   iterate 10 refine AX ?_
   exact⟨rfl,zS rfl (by(simp_all;done)) sX,rfl⟩
  have hh21:=hg21;try simp only[aR]at hh21
  iterate 3 refine AX ?_
  refine zD (t:=24) rfl (λhg24=>?_) (λhg24=>?_)
  ·have hh24:=hg24;try simp only[aT]at hh24
   iterate 7 refine AX ?_
   exact⟨rfl,zS rfl (by(simp_all;omega)) sX,rfl⟩
  have hh24:=hg24;try simp only[aR,cU]at hh24
  iterate 7 refine AX ?_
  exact⟨rfl,zS rfl (by(simp_all;done)) sX,rfl⟩
 refine .sub [(30,_),(9,_),(1,_),(2,_),(3,_),(8,_),(10,_)] sX ?_;refine .cx rfl (λhc30=>?_) (λhc30=>?_)
 ·have hv0:val xs=0:=by simpa using hc30
  iterate 9 refine AX ?_
  refine⟨?_,rfl⟩;unfold yD;rw[aN (.inl hv0)];rfl
 have hv0:0<val xs:=eL (by simpa using hc30);have hbp:0<yN (val xs):=by omega
 iterate 9 refine AX ?_
 refine .cx rfl (λhc33=>?_) (λhc33=>?_)
 ·iterate 10 refine AM ?_
  refine⟨?_,rfl⟩;unfold yD;rw[aJ,aK];rfl
 iterate 11 refine AX ?_
 refine .seqToL [(11,.int .i64 (yC (val xs) e))] [9,1,2,3,8] ?_ ?_
 ·iterate 6 refine AX ?_
  refine .cx rfl (λhc41=>?_) (λhc41=>?_)
  ·iterate 3 refine AX ?_
   exact⟨rfl,(zR rfl (by(rw[hun,aK];done)) sX),rfl⟩
  refine AX ?_;exact⟨rfl,(zR rfl (by(rw[hun,aJ];done)) sX),rfl⟩
 refine .sub [(11,_),(9,_),(1,_),(2,_),(3,_),(8,_)] sX ?_;iterate 5 refine AM ?_
 refine .seqToL [(12,.int .u64 ((abX (val xs) e more:Nat):Int))] [11,9,8] ?_ ?_
 ·iterate 7 refine AX ?_
  refine .cx rfl (λhc44=>?_) (λhc44=>?_)
  ·have hfs:val xs*2^(e-yC (val xs) e).toNat<18446744073709551616:=bcL hc44;have hms:=asD (more:=more) hc44;have hur2:=bqK hv0 hc44;iterate 5 refine AX ?_
   refine .cl rfl call81 (evs2 rfl rfl) (arJ xs tl hx hl (e-yC (val xs) e).toNat aA _ aA (eG hfs aE) _) ?_;refine .cl rfl call155 (.cons (tm rfl) (.cons zJ .nil)) (arG (zF (val xs*2^(e-yC (val xs) e).toNat)) .shared (zH _) (bC (yM (eG hfs aE)) aC) 0 aC _ rfl _) ?_;rw[zN,eA,gI,bH hfs];iterate 2 refine AX ?_
   exact⟨rfl,(zR rfl (by rw[hms]) sX),rfl⟩
  have hms:=caP (more:=more) hc44;have hds:val xs/2^((yC (val xs) e-e).toNat)<18446744073709551616:=by
   have:=awL hc44;rw[←bkM aA];omega
  iterate 12 refine AX ?_
  refine .cl rfl call155 (evs2 rfl rfl) (arG xs tl hx aA ((yC (val xs) e-e).toNat) aA _ aA _) ?_;rw[bH hds];iterate 8 refine AX ?_
  refine .cl rfl C156 (evs2 rfl rfl) (ahF xs tl hx aA (((yC (val xs) e-e).toNat)-1) aA _ aA _) ?_;iterate 3 refine AX ?_
  refine .seqTo 15 (.bool (decide (val xs%2^(((yC (val xs) e-e).toNat)-1)≠0)||more)) [11,9,8,12,14] ?_ ?_
  ·iterate 4 refine AX ?_
   refine .cl rfl call157 (evs2 rfl rfl) (bmC xs tl hx aA (((yC (val xs) e-e).toNat)-1) aA _ aA _) ?_;refine AX ?_;refine zD (t:=65) rfl (λhg65=>?_) (λhg65=>?_)
   ·have hh65:=hg65;try simp only[aT,ne_eq]at hh65
    iterate 4 refine AX ?_
    exact⟨rfl,zS rfl (by(simp_all;done)) sX,rfl⟩
   have hh65:=hg65;try simp only[aR,ne_eq,gQ]at hh65
   iterate 4 refine AX ?_
   exact⟨rfl,zS rfl (by(simp_all;done)) sX,rfl⟩
  refine .sub [(15,_),(11,_),(9,_),(8,_),(12,_),(14,_)] sX ?_;refine .seqTo 76 (.bool ((decide (((val xs/2^(((yC (val xs) e-e).toNat)-1)%2:Nat):Int)=1)&&((decide (val xs%2^(((yC (val xs) e-e).toNat)-1)≠0)||more)||decide (((val xs/2^((yC (val xs) e-e).toNat)%2:Nat):Int)=((1:Nat):Int)))))) [11,9,8,12] ?_ ?_
  ·iterate 3 refine AX ?_
   refine zD (t:=69) rfl (λhg69=>?_) (λhg69=>?_)
   ·have hh69:=hg69;try simp only[aT]at hh69
    iterate 2 refine AX ?_
    refine zD (t:=71) rfl (λhg71=>?_) (λhg71=>?_)
    ·have hh71:=hg71;try simp only[ne_eq]at hh71
     iterate 6 refine AX ?_
     exact⟨rfl,zS rfl (by(simp_all;done)) sX,rfl⟩
    have hh71:=hg71;try simp only[ne_eq]at hh71
    iterate 6 refine AM ?_
    exact⟨rfl,zS rfl (by(simp_all;done)) sX,rfl⟩
   have hh69:=hg69;try simp only[aR]at hh69
   iterate 8 refine AX ?_
   exact⟨rfl,zS rfl (by(simp_all;done)) sX,rfl⟩
  refine .sub [(76,_),(11,_),(9,_),(8,_),(12,_)] sX ?_;refine .cx rfl (λhc76=>?_) (λhc76=>?_)
  ·rw[aN hc76]at hms;iterate 5 refine AM ?_
   exact⟨rfl,(zR rfl (by rw[hms]) sX),rfl⟩
  rw[aM (by rw[hc76];decide)]at hms;refine AX ?_;exact⟨rfl,(zR rfl (by rw[hms]) sX),rfl⟩
 refine .sub [(12,_),(11,_),(9,_),(8,_)] sX ?_;refine .seqToL [(12,.int .u64 ((anY (abX (val xs) e more):Nat):Int)),(11,.int .i64 (amP (abX (val xs) e more) (yC (val xs) e)))] [9,8] ?_ ?_
 ·iterate 6 refine AM ?_
  refine .cx rfl (λhc80=>?_) (λhc80=>?_)
  ·iterate 7 refine AM ?_
   iterate 3 refine AX ?_
   exact⟨rfl,(zR rfl (by(unfold anY;rw[aK];done)) (zR rfl (by(unfold amP;rw[aK];done)) sX)),rfl⟩
  refine AX ?_;exact⟨rfl,(zR rfl (by(unfold anY;rw[aJ];done)) (zR rfl (by(unfold amP;rw[aJ];done)) sX)),rfl⟩
 refine .sub [(12,_),(11,_),(9,_),(8,_)] sX ?_;have hR:yD neg (val xs) e more=abA neg+acH (anY (abX (val xs) e more)) (amP (abX (val xs) e more) (yC (val xs) e)):=by
  unfold yD;rw[aJ,aJ,bjE]
 have hA:=bjF hml;have hU:=bjD (abX (val xs) e more) (yC (val xs) e);generalize anY (abX (val xs) e more)=m1 at hA hR ⊢;generalize amP (abX (val xs) e more) (yC (val xs) e)=u1 at hU hR ⊢;iterate 7 refine AM ?_
 refine .cx rfl (λhc84=>?_) (λhc84=>?_)
 ·iterate 11 refine AX ?_
  refine⟨?_,rfl⟩;rw[hR];unfold acH;rw[aK];rfl
 iterate 10 refine AX ?_
 refine .cx rfl (λhc90=>?_) (λhc90=>?_)
 ·iterate 10 refine AM ?_
  refine⟨?_,rfl⟩;rw[hR];unfold acH;rw[aJ,aK];rfl
 iterate 7 refine AX ?_
 refine .p rfl (.as (b:=.int .u64 (((u1+1075).toNat:Nat):Int)) (by congr 1;omega) (qD U3 U25 (tm rfl) (wrap64 aA aA))) ?_;refine .p rfl (qZ (tm rfl) (yB 52) aA (by rw[shl52 aA];omega)) (.p rfl (qF (tm rfl) (tm rfl) (by(rw[shl52 aA];omega))) ?_);refine AX ?_;refine .p rfl (qF (tm rfl) (tm rfl) (by(rw[shl52 aA];omega))) (.p rfl (afT (tm rfl) (yB 4503599627370496) (by(rw[shl52 aA];omega)) (by(rw[shl52 aA];omega))) ?_);iterate 5 refine AX ?_
 refine⟨?_,rfl⟩;rw[hR];unfold acH;rw[aJ,aJ];exact congrArg (λw:Nat=>AV.int .u64 (w:Int)) (show abA neg+(u1+1075).toNat*2^52+m1-4503599627370496=abA neg+(m1+(u1+1074).toNat*4503599627370496) by rw[shl52 aA];omega)
end
theorem bzA{k:Nat}(h:n<2^(k-1)):rne n k more=0:=by
 have h1:n/2^(k-1)=0:=cD h;have h2:n/2^k=0:=cD (bQ h (bB aC aA));unfold rne;rw[h1,h2,aJ]
theorem beN{e:Int}(h:e+yN n≤ -1076)(he:e≤0):yD false n e more=0:=by
 unfold yD;split
 ·rfl
 rw[aJ];have hu:yC n e= -1074:=by unfold yC;rw[aK]
 have hm:abX n e more=0:=by
  rcases bF n with h0|h0
  ·rename_i hn;exact absurd (.inl h0) hn
  have hb:=aeI h0;unfold abX;rw[hu,aJ];refine bzA (bQ (afA n) (bB aC aA))
 rw[hm,hu];rfl
theorem aqZ{e:Int}(h:1026≤e+yN n)(he: -10000≤e)(hn:0<n):yD false n e more=anL:=by
 unfold yD;rw[aJ];split
 ·unfold abA;simp
 rw[arV];have hu:yC n e=e+yN n-53:=by unfold yC;rw[aJ]
 have hg:=buH (n:=n) (e:=e) (more:=more) aA hn;unfold abA pk;rw[aM aC,bZ];split
 ·unfold acH;rw[aJ,aK]
 unfold acH;rw[aJ,aK]
theorem cfP:∃a b:Nat,a=1080∧b=330∧2^a≤10^b:=⟨1080,330,rfl,rfl,by decide+kernel⟩
theorem cfQ:∃a b:Nat,a=1026∧b=310∧2^a≤10^b:=⟨1026,310,rfl,rfl,by decide+kernel⟩
theorem bmK{L:Nat}(hm:m<10^L)(hp:(L:Int)+k≤ -330)(hk: -2000≤k):aiQ m k=0:=by
 obtain⟨A,B,hA,hB,h330⟩:=cfP;unfold aiQ;rw[aJ];obtain⟨j,hj⟩:∃j:Nat,k= -(j:Int):=⟨(-k).toNat,by omega⟩;subst hj;rw[show(-(-(j:Int))).toNat=j by omega];have hjl:=ajL j;unfold bbE;refine beN ?_ aA;generalize hK:yN (10^j)+127=K;have h1:m*2^K/10^j<2^(K-A)∧A≤K∨K<A:=by
  rcases bX K A with h|h
  ·exact .inr h
  refine .inl ⟨?_,h⟩;rw[bW (acG j)];have e1:2^K=2^(K-A)*2^A:=by rw[←bI];congr 1;omega
  have e2:10^L*10^B≤10^j:=by rw[←bI];exact bB aC aA
  rw[e1,bM m,bJ];refine fZ ?_ (bL aC)
  calc 2^A*m≤10^B*m:=bD _ h330
   _<10^B*10^L:=fZ hm (acG _)
   _=10^L*10^B:=bM _ _
   _≤10^j:=e2
 rcases h1 with⟨h1,hKA⟩|h1
 ·have:=qI.2 h1;omega
 exfalso;have h2:2^A≤10^j:=bC h330 (bB aC aA);have:=abO.2 h2;omega
theorem bmL{L:Nat}(hm:10^L≤m)(hp:310≤(L:Int)+k)(hk: -2000≤k):aiQ m k=anL:=by
 obtain⟨A,B,hA,hB,h310⟩:=cfQ;have hm0:0<m:=bQ (acG L) hm;unfold aiQ;split
 ·refine aqZ ?_ aC (gS hm0 (acG _));have h1:2^A≤m*10^k.toNat:=by
   refine bC h310 (bC (bB aC (show B≤L+k.toNat by omega)) ?_);rw[bI];exact bD _ hm
  have:=abO.2 h1;omega
 obtain⟨j,hj⟩:∃j:Nat,k= -(j:Int):=⟨(-k).toNat,by omega⟩;subst hj;rw[show(-(-(j:Int))).toNat=j by omega];have hjl:=ajL j;have h1:2^(yN (10^j)+127+A)≤m*2^(yN (10^j)+127)/10^j:=by
  rw[eB (acG j),bI,bM m,bJ];refine bS _ ?_;refine bC (bD _ h310) ?_;rw[←bI];exact bC (bB aC aA) hm
 have h2:=abO.2 h1;unfold bbE;refine aqZ aA aA (bQ (bL aC) h1)
/-! ### short decimals -/
theorem apZ{t:Nat}(h0:0<n)(h:n<9007199254740992)(ht:t≤500):∃j:Nat,j≤52∧yA (yD false n t false)=n*2^j∧zP (yD false n t false)=(t:Int)-j∧yK (yD false n t false)=2∧yD false n t false<9223372036854775808:=by
 have e53:(9007199254740992:Nat)=2^53:=by decide
 have hb:yN n≤53:=qI.2 (by rw[←e53];exact h);have hb0:=aeI h0;have hu:yC n t=(t:Int)+yN n-53:=by unfold yC;rw[aJ]
 refine⟨53-yN n,by omega,?_⟩;have hm:abX n t false=n*2^(53-yN n):=by
  unfold abX;rw[hu,aK];congr 2;omega
 have hlo:4503599627370496≤n*2^(53-yN n):=by
  have h1:=asY h0;have h2:=bD (2^(53-yN n)) h1;rw[←bI,show yN n-1+(53-yN n)=52 by omega]at h2;have e52:(4503599627370496:Nat)=2^52:=by decide
  omega
 have hhi:n*2^(53-yN n)<9007199254740992:=by
  have h2:=dE (afA n) (show 0<2^(53-yN n)from bL aC);rw[←bI,show yN n+(53-yN n)=53 by omega]at h2;omega
 have hr:yD false n t false=n*2^(53-yN n)+(t+yN n+1021)*4503599627370496:=by
  unfold yD;rw[aJ,aJ,hm,hu,arV];unfold abA pk acH;rw[aM aC,bZ,aJ,aJ,aJ];congr 2;omega
 rw[hr];generalize n*2^(53-yN n)=q at *;have hd:(q+(t+yN n+1021)*4503599627370496)/4503599627370496%2048=t+yN n+1022:=by omega
 have hmod:(q+(t+yN n+1021)*4503599627370496)%4503599627370496=q-4503599627370496:=by omega
 have hk:yK (q+(t+yN n+1021)*4503599627370496)=2:=by
  unfold yK;rw[hd,aJ,aJ]
 refine⟨?_,?_,hk,by omega⟩
 ·unfold yA;rw[hk,aM aC,aN rfl,hmod];omega
 unfold zP;rw[hk,aM aC,aN rfl,hd];omega
theorem boI{a b s t:Nat}(ha0:0<a)(ha:a<9007199254740992)(hb0:0<b)(hb:b<9007199254740992)(hs:s≤500)(ht:t≤500):aoB (yD false a s false) (yD false b t false)=yD false (a*b) ((s+t:Nat):Int) false:=by
 obtain⟨i,hi,a1,a2,a3,a4⟩:=apZ ha0 ha hs;obtain⟨j,hj,b1,b2,b3,b4⟩:=apZ hb0 hb ht;have hn:ayK (yD false a s false) (yD false b t false)=false:=by
  unfold ayK;refine aS ?_;rw[cD (show _<2^63 from a4),cD (show _<2^63 from b4)];simp
 unfold aoB;rw[a3,b3,aM aC,aM aC,hn,a1,a2,b1,b2];rw[show a*2^i*(b*2^j)=a*b*2^(i+j) by rw[bI,Nat.mul_mul_mul_comm],adN aA aA];congr 1;omega
theorem bxZ(i:Nat)(hi:i≤500):yD false (10^i) 0 false=yD false (5^i) (i:Int) false:=by
 rw[show(10:Nat)=5*2 by decide,Nat.mul_pow,adN aC aA];congr 1;omega
theorem bqV:∀i:Fin 23,cjF i.1=yD false (10^i.1) 0 false:=by decide+kernel
theorem bvT{j:Nat}(hm:0<m)(hm2:m<9007199254740992)(hj:j≤22):ciE m j=aiQ m (j:Int):=by
 have h5:5^j<9007199254740992:=bA (bB aC hj) aC;have hf:=boI (s:=0) (t:=j) hm hm2 (bL aC:0<5^j) h5 aC aA;unfold ciE aiQ;rw[aK,bqV ⟨j,by omega⟩,bxZ j aA];rw[show((0:Nat):Int)=0 from rfl,bZ]at hf;rw[hf,show((j:Int)).toNat=j by omega,show(10:Nat)=5*2 by decide,Nat.mul_pow,←bJ,adN aC aA];congr 1;omega
theorem cgY{c:UInt8}{r:List UInt8}(hc:isD c)(h0:c≠48):10^r.length≤num (c::r):=by
 rw[ajW];have:49≤c.toNat:=by
  rcases bX c.toNat 49 with h|h
  ·have h48:c.toNat=48:=by unfold isD at hc;omega
   exact absurd (fK.1 (show c.toNat=(48:UInt8).toNat by simp only[UInt8.reduceToNat];omega)) h0
  exact h
 exact bC (Nat.le_mul_of_pos_left _ aA) (gV _ _)
theorem arC{e:Int}(h:yE ds e=true)(hne:ds≠[]):10^(ds.length-1)≤num ds∧num ds<10^ds.length:=by
 have hd:=qC h;refine⟨?_,ahK hd⟩
 match ds,hne with
 |c::r,_=>
  refine cgY (hd c aF) ?_;rintro rfl;unfold yE at h;simp at h
theorem aqM{e:Int}(h:yE ds e=true)(hne:ds≠[])(hp: -400≤(ds.length:Int)+e∧(ds.length:Int)+e≤400):agA ds e=aiQ (num ds) e:=by
 have hd:=qC h;have hl:=yX h;have hlp:=bV.2 hne;obtain⟨hn1,hn2⟩:=arC h hne;have hn0:0<num ds:=bQ (acG _) hn1;unfold agA;by_cases h1:(ds.length:Int)+e< -330
 ·rw[aN (.inr h1),bmK hn2 aA aA]
 rw[aM (λq=>q.elim hne h1)];by_cases h2:310<(ds.length:Int)+e
 ·rw[aN h2,bmL hn1 aA aA]
 rw[aM h2];by_cases h3:ds.length≤19
 ·rw[aN h3];by_cases h4:ds.length≤15∧0≤e∧e≤22
  ·rw[aN h4];have h15:num ds<9007199254740992:=bQ hn2 (bC (bB aC h4.1) aC);have:=bvT hn0 h15 (j:=e.toNat) aA;rw[this];congr 1;omega
  rw[aM h4];split
  ·rename_i hq
   exact bfD hn0 aA hq
  exact baK hn0 aA
 rw[aM h3];exact baK hn0 aA
section
open Go Go.RowKit
set_option maxRecDepth 100000
theorem cdC:∃a:Nat,a=8192∧BIG=2^a:=⟨8192,rfl,by decide+kernel⟩
theorem afB{x:Nat}(h:yN x≤8192):x<BIG:=by
 obtain⟨a,ha,e⟩:=cdC;rw[e];exact qI.1 aA
theorem avC(neg:Bool)(n:Nat)(e:Int)(more:Bool):yD neg n e more=abA neg+yD false n e more:=by
 unfold yD;split
 ·rfl
 split
 ·unfold abA;simp
 rw[arV,arV];unfold abA;simp
theorem caD(h:i<ds.length):num (ds.take (i+1))=num (ds.take i)*10+((ds.getD i 0).toNat-48):=by
 rw[List.take_add_one,aP,aX h];generalize ds[i]=c;show num (ds.take i++[c])=_;rw[ahL];unfold num;rw[adG,ajX];simp
theorem bhD(n:Nat):yN (n*10)≤yN n+4:=by
 have h1:n<2^yN n:=qI.1 (aZ _);refine qI.2 ?_;rw[bI];omega
theorem ceF(hd:Digs ds):yN (num ds)≤10*ds.length/3+2:=bC (ahV (dK (ahK hd))) (akS _)
theorem ckS(hd:Digs ds){j:Nat}(h:ds.length+j≤2000):yN (num ds*10^j)≤8192:=by
 have h1:num ds*10^j≤10^(ds.length+j):=by rw[bI];exact bD _ (dK (ahK hd))
 have:=bC (ahV h1) (akS _);omega
def rK(m:Nat)(b:Nat):Nat:=yN b+70-yN m
def bmJ(neg:Bool)(ds:List UInt8)(e:Int):Nat:=abA neg+(if ds=[]∨(ds.length:Int)+e< -400 then 0 else if 400<(ds.length:Int)+e then anL else aiQ (num ds) e)
theorem bzL(hm:0<m)(hk: -2000≤k)(h0:k<0):bbE m (10^(-k).toNat) (rK m (10^(-k).toNat))=aiQ m k:=by
 unfold aiQ;rw[aJ];have hbl:=ajL (-k).toNat;have ht:=acG (-k).toNat;have hb:=aeI hm;refine(biT ht ?_ (by unfold rK;omega) aA).symm;have h1:=asY hm;have h2:=afA (10^(-k).toNat);have h3:2^65≤m*2^rK m (10^(-k).toNat)/10^(-k).toNat:=by
  rw[eB ht];refine bC (bS _ (dK h2)) (bC ?_ (bD _ h1));rw[←bI,←bI];exact bB aC (by unfold rK;omega)
 have:=abO.2 h3;omega
theorem bnX{r:Nat}:decide ((0:Int)<((zF r).length:Int))=decide (r≠0):=by
 refine aQ.2 ⟨λh q=>?_,λh=>?_⟩
 ·subst q;rw[show zF 0=[] by decide+kernel]at h;simp at h
 rw[qV (eL h)];simp only[aW];omega
def biS(ds:List UInt8)(H:Heap):Nat→Env→Heap→Prop:=λk env H1=>∃(i:Nat)(tl:Tail),i≤ds.length∧env=[(0,.str ds),(3,.slice 1 (U .u32 (zF (num (ds.take i)))) tl),(4,.int .i64 (i:Int))]∧H=H1∧k=ds.length-i
theorem bfB(ds:List UInt8)(hd:Digs ds)(hl:ds.length≤1200)(H:Heap):ACall prog 75 [.str ds] H (λy H'=>y=qX (num ds)∧H'=H):=by
 refine ACall.of_body func75 rfl ntmps75 results75 rfl ?_;iterate 7 refine AX ?_
 refine .e rfl (awZ U135 Z210 V210) ?_;iterate 10 refine AM ?_
 refine AWP.loopW (biS ds H) (ds.length) ⟨0,.full,Nat.zero_le _,rfl,rfl,rfl⟩ (zK rfl (zR rfl (abB rfl) (zK rfl yF))) (hRa _) ?_;rintro _ _ _ ⟨i,tl,hi,rfl,rfl,hk⟩;have hbl:=ceF (hd.take i);have htl:(ds.take i).length≤1200:=by rw[aV];omega
 have hl:=yM (n:=num (ds.take i)) (afB aA);iterate 9 refine AX ?_
 refine AWP.cond (tm rfl) (λhc9=>?_) (λhc9=>?_)
 ·try simp only[aT]at hc9
  have hil:i<ds.length:=by omega
  have hdi:=hd.at hil;have hdi2:48≤(ds.getD ((i:Nat):Int).toNat 0).toNat∧(ds.getD ((i:Nat):Int).toNat 0).toNat≤57:=hdi;have hl2:=yM (n:=val (zF (num (ds.take i)))*val [10]) (afB (by have h1:=bhD (num (ds.take i));rw[zN];show yN (num (ds.take i)*10)≤_;omega));iterate 4 refine AX ?_
  refine AWP.draw [(0,true),(1,true),(2,true),(3,true),(4,true),(5,true),(6,true),(7,true),(8,true),(9,true),(10,true)] rfl aE ?_;refine AX ?_;refine APlan.f rfl rfl (λ_=>yJ U135 Z210 V210 rfl (yB 10) (.inl rfl) ⟨rfl,rfl⟩) ?_;refine APlan.f rfl rfl (λ_=>zB C77 (evs2 rfl rfl) (aeE (zF (num (ds.take i))) tl (zH _) aA [10] .full (Limbs.mk aC Limbs.nil) aC _)) ?_;refine AX ?_;refine .p rfl rfl (zG (tm rfl)) (.p rfl rfl (qQ U9 (tm rfl) (tm rfl) aA aA) (.p rfl rfl (bmT (tm rfl) (yB 48) aA aA) (.p rfl rfl (qD U5 U210 (tm rfl) (wrapN32 aA)) ?_)));refine APlan.f rfl rfl (λ_=>yJ U135 Z210 V210 rfl (tm rfl) (.inl rfl) ⟨rfl,rfl⟩) ?_;refine APlan.f rfl rfl (λ_=>zB call128 (evs2 rfl rfl) (beZ (zF (val (zF (num (ds.take i)))*val [10])) .shared (zH _) aA [(ds.getD i 0).toNat-48] .full (Limbs.mk aA Limbs.nil) aF _)) ?_;iterate 10 refine AM ?_
  refine Round.mk (J:=biS ds H) ⟨i+1,.shared,by omega,rfl,rfl,rfl⟩ (zK rfl (zR rfl (congrArg qX (show _=num (ds.take (i+1)) by rw[zN,zN,caD hil];rfl)) (zK rfl yF))) (hRa _) aA
 try simp only[aR,cU]at hc9
 iterate 12 refine AX ?_
 refine Ret.go (.cons (.weak _ _ _ rfl (.slice _ _ _)) .nil) _ (hRa _) ?_;refine⟨?_,rfl⟩;rw[show i=ds.length by omega,cX];rfl
theorem aqQ(neg:Bool)(x:Nat)(hx:x<9223372036854775808):Fn 74 [.bool neg,.int .u64 (x:Int)] (.int .u64 ((abA neg+x:Nat):Int)):=by
 intro H;refine .of_body func74 rfl ntmps74 results74 rfl ?_;iterate 11 refine AM ?_
 refine .cx rfl (λhc5=>?_) (λhc5=>?_)
 ·iterate 10 refine AM ?_
  refine⟨?_,rfl⟩;unfold abA;rw[aN aB,fG];rfl
 iterate 10 refine AX ?_
 refine⟨?_,rfl⟩;unfold abA;rw[aM aI,bZ];rfl
theorem aoY(neg:Bool)(ds:List UInt8)(e:Int)(hr:yE ds e=true)(hl:ds.length≤1000):Fn 26 [dA neg ds e] (.int .u64 ((bmJ neg ds e:Nat):Int)):=by
 intro H;have hd:=qC hr;have hnb:=ceF hd;have hrl:=yX hr;refine .of_body func26 rfl ntmps26 results26 rfl ?_;iterate 9 refine AM ?_
 refine .cl rfl call73 (evs1 rfl) (aoW neg ds e (by rw[zQ];omega) _) ?_;rw[show zU ds e=(ds.length:Int)+e by unfold zU;rw[aN hr]];iterate 5 refine AX ?_
 refine .seqTo 11 (.bool (decide (ds=[]∨(ds.length:Int)+e< -400))) [1,2,3] ?_ ?_
 ·refine AX ?_;refine .p rfl (zA U61 rfl Z9 (tm rfl)) ?_;iterate 4 refine AX ?_
  refine zD (t:=16) rfl (λhg16=>?_) (λhg16=>?_)
  ·iterate 5 refine AX ?_
   exact⟨rfl,zS rfl (by(simp_all;done)) sX,rfl⟩
  iterate 5 refine AX ?_
  exact⟨rfl,zS rfl (by(simp_all;done)) sX,rfl⟩
 refine .sub [(11,_),(1,_),(2,_),(3,_)] sX ?_;refine .cx rfl (λhc11=>?_) (λhc11=>?_)
 ·have hc0:ds=[]∨(ds.length:Int)+e< -400:=hc11;iterate 2 refine AX ?_
  refine .p rfl (zA U61 rfl Z4 (tm rfl)) ?_;refine AX ?_;refine .cl rfl call74 (.cons (tm rfl) (.cons (yB 0) .nil)) (aqQ neg 0 aC _) ?_;iterate 7 refine AX ?_
  exact⟨congrArg (λw:Nat=>AV.int .u64 (w:Int)) (show _=bmJ neg ds e by unfold bmJ;rw[aN hc0]),rfl⟩
 have hc0:¬(ds=[]∨(ds.length:Int)+e< -400):=hc11;have hne:ds≠[]:=λq=>hc0 (.inl q);iterate 7 refine AX ?_
 refine .cx rfl (λhc23=>?_) (λhc23=>?_)
 ·iterate 2 refine AX ?_
  refine .p rfl (zA U61 rfl Z4 (tm rfl)) ?_;refine AX ?_;refine .cl rfl call74 (.cons (tm rfl) (.cons (yB 9218868437227405312) .nil)) (aqQ neg 9218868437227405312 aC _) ?_;iterate 7 refine AX ?_
  exact⟨congrArg (λw:Nat=>AV.int .u64 (w:Int)) (show _=bmJ neg ds e by unfold bmJ;rw[aM hc0,aK];rfl),rfl⟩
 have hnl:=yM (n:=num ds) (afB aA);have hn0:0<num ds:=bQ (acG _) (arC hr hne).1;iterate 5 refine AX ?_
 refine .p rfl (zA U61 rfl Z9 (tm rfl)) ?_;refine AX ?_;refine .cl rfl call75 (evs1 rfl) (bfB ds hd aA _) ?_;iterate 6 refine AX ?_
 refine .p rfl (zA U61 rfl Z3 (tm rfl)) ?_;iterate 4 refine AX ?_
 refine .cx rfl (λhc34=>?_) (λhc34=>?_)
 ·have hbe:=akS e.toNat;have htl:=yM (n:=10^e.toNat) (afB aA);have hml:=yM (n:=num ds*10^e.toNat) (afB (ckS hd aA));refine AX ?_;refine .draw [(0,true),(1,true),(2,true),(3,true),(4,true),(5,false),(6,true),(7,false),(8,true)] rfl aE ?_;refine .p rfl rfl (zA U61 rfl Z4 (tm rfl)) ?_;iterate 2 refine AX ?_
  refine .p rfl rfl (zA U61 rfl Z3 (tm rfl)) ?_;refine AX ?_;refine .s rfl rfl (zB call78 (evs1 rfl) (avA e.toNat aA _ aA (afB (by have:=akS e.toNat;omega)) _)) ?_;rintro _ _ ⟨rfl,hH⟩;obtain rfl:=hH.symm;refine .f rfl rfl (λ_=>zB C77 (evs2 rfl rfl) (aeE (zF (num ds)) .shared (zH _) aA (zF (10^e.toNat)) .shared (zH _) aA _)) ?_;refine .s rfl rfl (zB call76 (.cons (tm rfl) (.cons (tm rfl) (.cons zJ (.cons zT .nil)))) (aoU neg (zF (val (zF (num ds))*val (zF (10^e.toNat)))) .shared (zH _) (by rw[zN,zN];omega) 0 aC false _)) ?_;rintro _ _ ⟨rfl,hH⟩;obtain rfl:=hH.symm;iterate 6 refine AX ?_
  have e1:yD neg (val (zF (val (zF (num ds))*val (zF (10^e.toNat))))) 0 false=bmJ neg ds e:=by
   unfold bmJ aiQ;rw[aM hc0,aJ,aK,avC,zN,zN,zN]
  exact⟨congrArg (λw:Nat=>AV.int .u64 (w:Int)) e1,rfl⟩
 have hbe:=akS (-e).toNat;have htl:=yM (n:=10^(-e).toNat) (afB aA);have hbp:=acG (-e).toNat;have hbb:=aeI hbp;have hnp:=aeI hn0;have hk:rK (num ds) (10^(-e).toNat)=yN (10^(-e).toNat)+70-yN (num ds):=rfl;have hup:num ds*2^rK (num ds) (10^(-e).toNat)<BIG:=afB (by rw[bkR hn0];omega);have hul:=yM hup;have hql:=yM (n:=num ds*2^rK (num ds) (10^(-e).toNat)/10^(-e).toNat) (bA (dP _ _) hup);iterate 4 refine AX ?_
 refine .p rfl (zA U61 rfl Z3 (tm rfl)) ?_;iterate 2 refine AX ?_
 refine .cl rfl call78 (evs1 rfl) (avA (-e).toNat aA _ aA (afB aA) _) ?_;iterate 8 refine AX ?_
 refine .seqToL [(6,.int .i64 ((rK (num ds) (10^(-e).toNat):Nat):Int))] [1,2,4,5] ?_ ?_
 ·iterate 3 refine AX ?_
  refine .cl rfl C79 (evs1 rfl) (ahE (zF (10^(-e).toNat)) .shared (zH _) aA _) ?_;rw[zN];refine AX ?_;refine .cl rfl C79 (evs1 rfl) (ahE (zF (num ds)) .shared (zH _) aA _) ?_;rw[zN];iterate 5 refine AX ?_
  refine .cx rfl (λhc53=>?_) (λhc53=>?_)
  ·iterate 2 refine AX ?_
   refine .cl rfl C79 (evs1 rfl) (ahE (zF (10^(-e).toNat)) .shared (zH _) aA _) ?_;rw[zN];refine AX ?_;refine .cl rfl C79 (evs1 rfl) (ahE (zF (num ds)) .shared (zH _) aA _) ?_;rw[zN];iterate 4 refine AX ?_
   exact⟨rfl,(zR rfl (by(rw[hk];exact congrArg (AV.int .i64) aA)) sX),rfl⟩
  refine AX ?_;exact⟨rfl,(zR rfl (by(rw[hk];exact congrArg (AV.int .i64) aA)) sX),rfl⟩
 refine .sub [(6,_),(1,_),(2,_),(4,_),(5,_)] sX ?_;iterate 4 refine AX ?_
 refine .cl rfl call81 (evs2 rfl rfl) (arJ (zF (num ds)) .shared (zH _) aA (rK (num ds) (10^(-e).toNat)) aA _ rfl (by rw[zN];exact hup) _) ?_;rw[zN];refine AX ?_;refine .cl rfl call80 (evs2 rfl rfl) (aoX (zF (num ds*2^rK (num ds) (10^(-e).toNat))) .shared (zH _) aA (zF (10^(-e).toNat)) .shared (zH _) aA (by rw[zN];exact hbp) _) ?_;rw[zN];rw[zN];iterate 9 refine AX ?_
 refine .p rfl (zA U61 rfl Z4 (tm rfl)) ?_;iterate 7 refine AX ?_
 refine .cl rfl call76 (.cons (tm rfl) (evs3 rfl rfl rfl)) (aoU neg (zF (num ds*2^rK (num ds) (10^(-e).toNat)/(10^(-e).toNat))) .shared (zH _) aA (-((rK (num ds) (10^(-e).toNat):Nat):Int)) aA _ _) ?_;iterate 5 refine AX ?_
 have hrr:=bzL (m:=num ds) (k:=e) hn0 aA aA;unfold bbE at hrr;have e1:yD neg (val (zF (num ds*2^rK (num ds) (10^(-e).toNat)/10^(-e).toNat))) (-((rK (num ds) (10^(-e).toNat):Nat):Int)) (decide ((0:Int)<((zF (num ds*2^rK (num ds) (10^(-e).toNat)%10^(-e).toNat)).length:Int)))=bmJ neg ds e:=by
  unfold bmJ;rw[aM hc0,aJ,avC,zN,bnX,hrr]
 exact⟨congrArg (λw:Nat=>AV.int .u64 (w:Int)) e1,rfl⟩
theorem bsJ{neg:Bool}{e:Int}(hr:yE ds e=true):bmJ neg ds e=agX neg ds e:=by
 unfold bmJ agX;congr 1;by_cases h0:ds=[]
 ·unfold agA;rw[aN (.inl h0),aN (.inl h0)]
 by_cases h1:(ds.length:Int)+e< -400
 ·unfold agA;rw[aN (.inr h1),aN (.inr aA)]
 by_cases h2:400<(ds.length:Int)+e
 ·unfold agA;rw[aM (by simp[h0,h1]),aN h2,aM (by simp[h0];omega),aK]
 rw[aM (by simp[h0,h1]),aM h2,aqM hr h0 ⟨by omega,by omega⟩]
end
end Go.Proofs.YteedncdcbgplfaaGreatDoor
