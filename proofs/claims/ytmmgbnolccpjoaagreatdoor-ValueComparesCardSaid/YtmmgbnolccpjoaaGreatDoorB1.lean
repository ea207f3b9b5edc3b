import Derived.Test.YtmmgbnolccpjoaaGreatDoorV3
set_option maxHeartbeats 1000000
namespace Go.Proofs.YtmmgbnolccpjoaaGreatDoor
open Go.Proofs.Tryz
open Go Go.RowKit
variable{i v:Nat}{ds:List UInt8}
section
set_option maxRecDepth 100000
theorem bqG{y:Nat}(h:0<y):zY y=zY (y/2)+1:=by
 rcases cG y 2 with q|q
 ·have:y=1:=by omega
  subst this;rfl
 have:=agD (n:=y) (k:=1) (m:=y/2) aA rfl;omega
theorem bzU{a m k:Nat}:a/2^m%2^(k+1)=2*(a/2^(m+1)%2^k)+a/2^m%2:=by
 rw[bQ 2 m,←bY,bQ 2 k,bK (2^k),Nat.mod_mul];omega
theorem bnM(h:v%2^i=0):v%2^(i+1)=2^i*(v/2^i%2):=by
 rw[bQ,Nat.mod_mul,h,bZ]
theorem ccW{n:Nat}(h:v%2^i=0)(hn:i=n∨v<2^i)(hin:i≤n):v%2^n=0:=by
 rcases hn with rfl|hn
 ·exact h
 rw[bE hn]at h;subst h;exact Nat.zero_mod _
theorem cjI{n:Nat}(hin:i<n)(h:v%2^i=0)(hb:v/2^i%2=1):v%2^n≠0:=by
 intro q;have h1:=bnM h;rw[hb,fG]at h1;have h2:v%2^(i+1)=0:=by
  have:=Nat.mod_mod_of_dvd v (Nat.pow_dvd_pow 2 (show i+1≤n by omega));rw[q]at this;rw[←this];exact Nat.zero_mod _
 have:=bO (n:=i) (show 0<2 by decide);omega
def cfY(v:Nat)(H:Heap):Nat→Env→Heap→Prop:=λk env H1=>∃(i y:Nat),i+zY y=zY ((zE v).getD ((zE v).length-1) 0)∧y<4294967296∧env=[(4,.int .i64 (32*(((zE v).length:Int)-1)+(i:Int))),(5,.int .u32 (y:Int))]∧H=H1∧k=zY y
theorem aiH(xs:List Nat)(tl:Tail)(hx:Limbs xs)(hl:xs.length≤100000):Fn 85 [.slice 1 (U .u32 xs) tl] (.int .i64 (zY (val xs):Int)):=by
 intro H;have hT:=qX xs tl hx aA;have hvl:(zE (val xs)).length≤xs.length:=by rw[←abK hx];exact aaU xs
 generalize val xs=v at *;have hgt:=Limbs.getD (zF v) ((zE v).length-1);have hb32:=(yQ (n:=((zE v).getD ((zE v).length-1) 0)) (k:=32)).2 (by rw[show(2:Nat)^32=4294967296 by decide];exact hgt);refine .of_body func85 rfl ntmps85 results85 rfl ?_;iterate 8 refine AX ?_
 refine .cl rfl C153 (evs1 rfl) (hT _) ?_;iterate 11 refine AX ?_
 refine .cx rfl (λhc10=>?_) (λhc10=>?_)
 ·have hv0:v=0:=by
   rcases bJ v with h|h
   ·exact h
   rw[qR h]at hc10;simp only[aX]at hc10;omega
  iterate 8 refine AX ?_
  refine⟨?_,rfl⟩;subst hv0;rfl
 have hvp:0<v:=by
  rcases bJ v with h|h
  ·subst h;exact absurd rfl hc10
  exact h
 have hbl:=alM hvp;have hlp:0<(zE v).length:=by rw[qR hvp];simp
 iterate 17 refine AX ?_
 refine .p rfl (zW ((zE v).length-1) U107 Z166 (tm rfl) (tm rfl) aA aA) ?_;iterate 6 refine AX ?_
 refine .loopW (cfY v H) (zY ((zE v).getD ((zE v).length-1) 0)) ⟨0,((zE v).getD ((zE v).length-1) 0),by omega,hgt,rfl,rfl,rfl⟩ (zM rfl (by congr 1;try omega) (zI rfl yJ)) (hRa _) ?_;rintro _ _ _ ⟨i,y,hi,hy,rfl,rfl,rfl⟩;iterate 7 refine AM ?_
 refine .cx rfl (λhc22=>?_) (λhc22=>?_)
 ·iterate 12 refine AX ?_
  refine .p rfl (bqR (tm rfl) (zR 2) aB aA) ?_;iterate 4 refine AX ?_
  have hbh:=bqG (y:=y) aA;refine Round.mk ⟨i+1,y/2,by omega,by omega,rfl,rfl,rfl⟩ (zM rfl (by congr 1;try omega) (zI rfl yJ)) (hRa _) aA
 have hy0:y=0:=by omega
 subst hy0;rw[bzS]at hi;iterate 13 refine AX ?_
 refine⟨?_,rfl⟩;show AV.int .i64 _=AV.int .i64 _;congr 1;omega
def byL(xs:List Nat)(tl:Tail)(n:Nat)(q:Int)(H:Heap):Nat→Env→Heap→Prop:=λk env H1=>∃c:Nat,c≤64∧env=[(0,.slice 1 (U .u32 xs) tl),(1,.int .i64 q),(5,.int .u64 ((val xs/2^(n+c)%2^(64-c):Nat):Int)),(6,.int .i64 ((c:Int)-1))]∧H=H1∧c=k
theorem atM(xs:List Nat)(tl:Tail)(hx:Limbs xs)(hl:xs.length≤100000)(n:Nat)(hn:n≤100000000)(q:Int)(hq:q=(n:Int)):Fn 150 [.slice 1 (U .u32 xs) tl,.int .i64 q] (.int .u64 ((val xs/2^n%18446744073709551616:Nat):Int)):=by
 intro H;subst hq;refine .of_body func150 rfl ntmps150 results150 rfl ?_;iterate 13 refine AM ?_
 iterate 4 refine AX ?_
 refine .loopW (byL xs tl n (n:Int) H) (64) ⟨64,aV _,rfl,rfl,rfl⟩ (zI rfl (zI rfl (zM rfl (by simp[Nat.mod_one]) (zI rfl yJ)))) (hRa _) ?_;rintro _ _ _ ⟨c,hc,rfl,rfl,rfl⟩;iterate 7 refine AX ?_
 refine .cx rfl (λhc8=>?_) (λhc8=>?_)
 ·have hbn:val xs/2^(n+(c-1))%2^(64-(c-1))=2*(val xs/2^(n+c)%2^(64-c))+val xs/2^(n+(c-1))%2:=by
   have:=@bzU (val xs) (n+(c-1)) (64-c);rw[show 64-c+1=64-(c-1) by omega,show n+(c-1)+1=n+c by omega]at this;exact this
  have hlt:val xs/2^(n+c)%2^(64-c)<9223372036854775808:=bM (bU _ (bO aC)) (aZ (aW aC (show 64-c≤63 by omega)) aC);iterate 17 refine AM ?_
  refine .cl rfl C151 (evs2 rfl rfl) (afX xs tl hx aA (n+(c-1)) aA _ aA _) ?_;iterate 2 refine AX ?_
  refine .cx rfl (λhc17=>?_) (λhc17=>?_)
  ·iterate 9 refine AM ?_
   iterate 4 refine AX ?_
   refine Round.mk ⟨c-1,by omega,rfl,rfl,rfl⟩ (zI rfl (zI rfl (zM rfl (congrArg (λw:Nat=>AV.int .u64 (w:Int)) (show _=val xs/2^(n+(c-1))%2^(64-(c-1)) by omega)) (zM rfl (by congr 1;omega) yJ)))) (hRa _) aA
  iterate 9 refine AX ?_
  refine Round.mk ⟨c-1,by omega,rfl,rfl,rfl⟩ (zI rfl (zI rfl (zM rfl (congrArg (λw:Nat=>AV.int .u64 (w:Int)) (show _=val xs/2^(n+(c-1))%2^(64-(c-1)) by omega)) (zM rfl (by congr 1;omega) yJ)))) (hRa _) aA
 have hc0:c=0:=by omega
 subst hc0;iterate 13 refine AX ?_
 refine⟨?_,rfl⟩;rw[cB,gL,show(2:Nat)^64=18446744073709551616 by decide];rfl
def cmV(xs:List Nat)(tl:Tail)(n:Nat)(H:Heap):Nat→Env→Heap→Prop:=λk env H1=>∃i:Nat,i≤n∧val xs%2^i=0∧env=[(0,.slice 1 (U .u32 xs) tl),(1,.int .i64 (n:Int)),(5,.int .i64 (i:Int))]∧H=H1∧k=n-i
theorem bpV(xs:List Nat)(tl:Tail)(hx:Limbs xs)(hl:xs.length≤100000)(n:Nat)(hn:n≤100000000)(q:Int)(hq:q=(n:Int)):Fn 152 [.slice 1 (U .u32 xs) tl,.int .i64 q] (.bool (decide (val xs%2^n≠0))):=by
 intro H;subst hq;refine .of_body func152 rfl ntmps152 results152 rfl ?_;iterate 12 refine AX ?_
 refine .loopW (cmV xs tl n H) (n) ⟨0,Nat.zero_le _,by simp[Nat.mod_one],rfl,rfl,rfl⟩ sX (hRa _) ?_;rintro _ _ _ ⟨i,hi,hl0,rfl,rfl,rfl⟩;refine AX ?_;refine .seqTo 15 (.bool (decide ((i:Int)<(n:Int))&&decide ((i:Int)<32*(xs.length:Int)))) [0,1,5] ?_ ?_
 ·iterate 5 refine AX ?_
  refine zC (t:=9) rfl (λhg9=>?_) (λhg9=>?_)
  ·iterate 7 refine AX ?_
   exact⟨rfl,zL rfl (by(rw[show decide ((i:Int)<(n:Int))=_ from hg9];rfl)) sX,rfl⟩
  iterate 7 refine AX ?_
  exact⟨rfl,zL rfl (by(rw[show decide ((i:Int)<(n:Int))=_ from hg9];rfl)) sX,rfl⟩
 refine .sub [(15,_),(0,_),(1,_),(5,_)] sX ?_;refine .cx rfl (λhc15=>?_) (λhc15=>?_)
 ·simp only[bL,aO]at hc15;iterate 8 refine AX ?_
  refine .cl rfl C151 (evs2 rfl rfl) (afX xs tl hx aA i aA _ rfl _) ?_;iterate 2 refine AX ?_
  refine .cx rfl (λhc20=>?_) (λhc20=>?_)
  ·iterate 12 refine AX ?_
   refine⟨?_,rfl⟩;rw[aY (cjI aA hl0 aA)];rfl
  iterate 9 refine AX ?_
  refine Round.mk ⟨i+1,by omega,by rw[bnM hl0,show val xs/2^i%2=0 by omega,dQ],rfl,rfl,rfl⟩ sX (hRa _) aA
 simp only[bX,aM]at hc15;have hvl:=agG hx;rw[show(4294967296:Nat)=2^32 by decide,←eE]at hvl;have hov:val xs%2^n=0:=ccW hl0 (by rcases hc15 with h|h;exact .inl aA;exact .inr (bM hvl (aW aC aA))) hi;iterate 12 refine AX ?_
 refine⟨?_,rfl⟩;rw[bB (by rw[hov];simp)];rfl
end
section
open Go Go.RowKit
set_option maxRecDepth 100000
theorem ceQ{xs:List Nat}(hx:Limbs xs):zY (val xs)≤32*xs.length:=yQ.2 (by have:=agG hx;rw[show(4294967296:Nat)=2^32 by decide,←eE]at this;exact this)
theorem ccU{e:Int}{more:Bool}(h:e<yB v e):acY v e more=if(decide (((v/2^(((yB v e-e).toNat)-1)%2:Nat):Int)=1)&&((decide (v%2^(((yB v e-e).toNat)-1)≠0)||more)||decide (((v/2^((yB v e-e).toNat)%2:Nat):Int)=((1:Nat):Int))))=true then v/2^((yB v e-e).toNat)+1 else v/2^((yB v e-e).toNat):=by
 rw[bxF h];simp only[bL,cN,aO,or_assoc];congr 1;refine propext ⟨λq=>⟨by omega,q.2.imp_right (Or.imp_right (λw=>by omega))⟩,λq=>⟨by omega,q.2.imp_right (Or.imp_right (λw=>by omega))⟩⟩
theorem ahF(neg:Bool)(xs:List Nat)(tl:Tail)(hx:Limbs xs)(hl:xs.length≤10000)(e:Int)(he: -10000≤e∧e≤1000000)(more:Bool):Fn 82 [.bool neg,.slice 1 (U .u32 xs) tl,.int .i64 e,.bool more] (.int .u64 ((zV neg (val xs) e more:Nat):Int)):=by
 intro H;have hbl:zY (val xs)≤320000:=by have:=ceQ hx;omega
 have hb0:=@blen0 (val xs);have hun:yB (val xs) e=if e+zY (val xs)-53< -1074 then-1074 else e+zY (val xs)-53:=rfl
 have hul:=azJ (val xs) e;have hur:yB (val xs) e≤2000000:=by rw[hun];split<;>omega
 have hml:=amN (val xs) e more;have hsg:qG neg≤9223372036854775808:=by unfold qG;split<;>omega
 refine .of_body func82 rfl ntmps82 results82 rfl ?_;iterate 10 refine AM ?_
 refine .seqToL [(9,.int .u64 ((qG neg:Nat):Int))] [1,2,3,8] ?_ ?_
 ·iterate 5 refine AX ?_
  refine .cx rfl (λhc16=>?_) (λhc16=>?_)
  ·iterate 3 refine AM ?_
   exact⟨rfl,(zM rfl (by(unfold qG;rw[aN aB];done)) sX),rfl⟩
  refine AX ?_;exact⟨rfl,(zM rfl (by(unfold qG;rw[aL aH];done)) sX),rfl⟩
 refine .sub [(9,_),(1,_),(2,_),(3,_),(8,_)] sX ?_;iterate 3 refine AX ?_
 refine .cl rfl C85 (evs1 rfl) (aiH xs tl hx aA _) ?_;iterate 4 refine AX ?_
 refine .sB 30 (decide (val xs=0)) [9,1,2,3,8,10] ?_
 ·refine .sub [(30,_),(9,_),(1,_),(2,_),(3,_),(8,_),(10,_)] sX ?_;refine .cx rfl (λhc30=>?_) (λhc30=>?_)
  ·have hv0:val xs=0:=by simpa using hc30
   iterate 9 refine AX ?_
   refine⟨?_,rfl⟩;unfold zV;rw[aN (.inl hv0)];rfl
  have hv0:0<val xs:=eI (by simpa using hc30);have hbp:0<zY (val xs):=by omega
  iterate 9 refine AX ?_
  refine .cx rfl (λhc33=>?_) (λhc33=>?_)
  ·iterate 10 refine AM ?_
   refine⟨?_,rfl⟩;unfold zV;rw[aI,aJ];rfl
  iterate 11 refine AX ?_
  refine .seqToL [(11,.int .i64 (yB (val xs) e))] [9,1,2,3,8] ?_ ?_
  ·iterate 6 refine AX ?_
   refine .cx rfl (λhc41=>?_) (λhc41=>?_)
   ·iterate 3 refine AX ?_
    exact⟨rfl,(zM rfl (by(rw[hun,aJ];done)) sX),rfl⟩
   refine AX ?_;exact⟨rfl,(zM rfl (by(rw[hun,aI];done)) sX),rfl⟩
  refine .sub [(11,_),(9,_),(1,_),(2,_),(3,_),(8,_)] sX ?_;iterate 5 refine AM ?_
  refine .seqToL [(12,.int .u64 ((acY (val xs) e more:Nat):Int))] [11,9,8] ?_ ?_
  ·iterate 7 refine AX ?_
   refine .cx rfl (λhc44=>?_) (λhc44=>?_)
   ·have hfs:val xs*2^(e-yB (val xs) e).toNat<18446744073709551616:=bfP hc44;have hms:=auL (more:=more) hc44;have hur2:=btV hv0 hc44;iterate 5 refine AX ?_
    refine .cl rfl C87 (evs2 rfl rfl) (akG xs tl hx hl (e-yB (val xs) e).toNat aA _ aA (cL hfs aE) _) ?_;refine .cl rfl call150 (.cons (tm rfl) (.cons zH .nil)) (atM (zE (val xs*2^(e-yB (val xs) e).toNat)) .shared (zF _) (aZ (yI (cL hfs aE)) aC) 0 aC _ rfl _) ?_;rw[zG,dI,gC,bE hfs];iterate 2 refine AX ?_
    exact⟨rfl,(zM rfl (by rw[hms]) sX),rfl⟩
   have hms:=ccU (more:=more) hc44;have hds:val xs/2^((yB (val xs) e-e).toNat)<18446744073709551616:=by
    have:=ayW hc44;rw[←boG aA];omega
   iterate 12 refine AX ?_
   refine .cl rfl call150 (evs2 rfl rfl) (atM xs tl hx aA ((yB (val xs) e-e).toNat) aA _ aA _) ?_;rw[bE hds];iterate 8 refine AX ?_
   refine .cl rfl C151 (evs2 rfl rfl) (afX xs tl hx aA (((yB (val xs) e-e).toNat)-1) aA _ aA _) ?_;iterate 3 refine AX ?_
   refine .seqTo 15 (.bool (decide (val xs%2^(((yB (val xs) e-e).toNat)-1)≠0)||more)) [11,9,8,12,14] ?_ ?_
   ·iterate 4 refine AX ?_
    refine .cl rfl call152 (evs2 rfl rfl) (bpV xs tl hx aA (((yB (val xs) e-e).toNat)-1) aA _ aA _) ?_;refine AX ?_;refine zC (t:=65) rfl (λhg65=>?_) (λhg65=>?_)
    ·have hh65:=hg65;try simp only[aO,ne_eq]at hh65
     iterate 4 refine AX ?_
     exact⟨rfl,zL rfl (by(simp_all;done)) sX,rfl⟩
    have hh65:=hg65;try simp only[aM,ne_eq,dY]at hh65
    iterate 4 refine AX ?_
    exact⟨rfl,zL rfl (by(simp_all;done)) sX,rfl⟩
   refine .sub [(15,_),(11,_),(9,_),(8,_),(12,_),(14,_)] sX ?_;refine .seqTo 76 (.bool ((decide (((val xs/2^(((yB (val xs) e-e).toNat)-1)%2:Nat):Int)=1)&&((decide (val xs%2^(((yB (val xs) e-e).toNat)-1)≠0)||more)||decide (((val xs/2^((yB (val xs) e-e).toNat)%2:Nat):Int)=((1:Nat):Int)))))) [11,9,8,12] ?_ ?_
   ·iterate 3 refine AX ?_
    refine zC (t:=69) rfl (λhg69=>?_) (λhg69=>?_)
    ·have hh69:=hg69;try simp only[aO]at hh69
     iterate 2 refine AX ?_
     refine zC (t:=71) rfl (λhg71=>?_) (λhg71=>?_)
     ·have hh71:=hg71;try simp only[ne_eq]at hh71
      iterate 6 refine AX ?_
      exact⟨rfl,zL rfl (by(simp_all;done)) sX,rfl⟩
     have hh71:=hg71;try simp only[ne_eq]at hh71
     iterate 6 refine AM ?_
     exact⟨rfl,zL rfl (by(simp_all;done)) sX,rfl⟩
    have hh69:=hg69;try simp only[aM]at hh69
    iterate 8 refine AX ?_
    exact⟨rfl,zL rfl (by(simp_all;done)) sX,rfl⟩
   refine .sub [(76,_),(11,_),(9,_),(8,_),(12,_)] sX ?_;refine .cx rfl (λhc76=>?_) (λhc76=>?_)
   ·rw[aN hc76]at hms;iterate 5 refine AM ?_
    exact⟨rfl,(zM rfl (by rw[hms]) sX),rfl⟩
   rw[aL (by rw[hc76];decide)]at hms;refine AX ?_;exact⟨rfl,(zM rfl (by rw[hms]) sX),rfl⟩
  refine .sub [(12,_),(11,_),(9,_),(8,_)] sX ?_;refine .seqToL [(12,.int .u64 ((apM (acY (val xs) e more):Nat):Int)),(11,.int .i64 (anV (acY (val xs) e more) (yB (val xs) e)))] [9,8] ?_ ?_
  ·iterate 6 refine AM ?_
   refine .cx rfl (λhc80=>?_) (λhc80=>?_)
   ·iterate 7 refine AM ?_
    iterate 3 refine AX ?_
    exact⟨rfl,(zM rfl (by(unfold apM;rw[aJ];done)) (zM rfl (by(unfold anV;rw[aJ];done)) sX)),rfl⟩
   refine AX ?_;exact⟨rfl,(zM rfl (by(unfold apM;rw[aI];done)) (zM rfl (by(unfold anV;rw[aI];done)) sX)),rfl⟩
  refine .sub [(12,_),(11,_),(9,_),(8,_)] sX ?_;have hR:zV neg (val xs) e more=qG neg+adY (apM (acY (val xs) e more)) (anV (acY (val xs) e more) (yB (val xs) e)):=by
   unfold zV;rw[aI,aI,bmY]
  have hA:=bmZ hml;have hU:=bmX (acY (val xs) e more) (yB (val xs) e);generalize apM (acY (val xs) e more)=m1 at hA hR ⊢;generalize anV (acY (val xs) e more) (yB (val xs) e)=u1 at hU hR ⊢;iterate 7 refine AM ?_
  refine .cx rfl (λhc84=>?_) (λhc84=>?_)
  ·iterate 11 refine AX ?_
   refine⟨?_,rfl⟩;rw[hR];unfold adY;rw[aJ];rfl
  iterate 10 refine AX ?_
  refine .cx rfl (λhc90=>?_) (λhc90=>?_)
  ·iterate 10 refine AM ?_
   refine⟨?_,rfl⟩;rw[hR];unfold adY;rw[aI,aJ];rfl
  iterate 7 refine AX ?_
  refine .p rfl (.as (b:=.int .u64 (((u1+1075).toNat:Nat):Int)) (by congr 1;omega) (aaD U3 U22 (tm rfl) (wrap64 aA aA))) ?_;refine .p rfl (qB (tm rfl) (zR 52) aA (by rw[shl52 aA];omega)) (.p rfl (yV (tm rfl) (tm rfl) (by(rw[shl52 aA];omega))) ?_);refine AX ?_;refine .p rfl (yV (tm rfl) (tm rfl) (by(rw[shl52 aA];omega))) (.p rfl (abE (tm rfl) (zR 4503599627370496) (by(rw[shl52 aA];omega)) (by(rw[shl52 aA];omega))) ?_);iterate 5 refine AX ?_
  refine⟨?_,rfl⟩;rw[hR];unfold adY;rw[aI,aI];exact congrArg (λw:Nat=>AV.int .u64 (w:Int)) (show qG neg+(u1+1075).toNat*2^52+m1-4503599627370496=qG neg+(m1+(u1+1074).toNat*4503599627370496) by rw[shl52 aA];omega)
end
section
open Go Go.RowKit
set_option maxRecDepth 100000
theorem cfK:∃a:Nat,a=8192∧BIG=2^a:=⟨8192,rfl,by decide+kernel⟩
theorem afV{x:Nat}(h:zY x≤8192):x<BIG:=by
 obtain⟨a,ha,e⟩:=cfK;rw[e];exact yQ.1 aA
theorem axP(neg:Bool)(n:Nat)(e:Int)(more:Bool):zV neg n e more=qG neg+zV false n e more:=by
 unfold zV;split
 ·rfl
 split
 ·unfold qG;simp
 rw[baW,baW];unfold qG;simp
theorem bnB(h:i<ds.length):num (ds.take (i+1))=num (ds.take i)*10+((ds.getD i 0).toNat-48):=by
 rw[List.take_add_one,aR,bG h];generalize ds[i]=c;show num (ds.take i++[c])=_;rw[ayF];unfold num;rw[aeG,arU];simp
theorem bkP(n:Nat):zY (n*10)≤zY n+4:=by
 have h1:n<2^zY n:=yQ.1 (aV _);refine yQ.2 ?_;rw[bI];omega
theorem cgJ(hd:Digs ds):zY (num ds)≤10*ds.length/3+2:=aZ (agU (cT (aiN hd))) (alS _)
theorem cmO(hd:Digs ds){j:Nat}(h:ds.length+j≤2000):zY (num ds*10^j)≤8192:=by
 have h1:num ds*10^j≤10^(ds.length+j):=by rw[bI];exact bC _ (cT (aiN hd))
 have:=aZ (agU h1) (alS _);omega
def rK(m:Nat)(b:Nat):Nat:=zY b+70-zY m
def bgX(neg:Bool)(ds:List UInt8)(e:Int):Nat:=qG neg+(if ds=[]∨(ds.length:Int)+e< -400 then 0 else if 400<(ds.length:Int)+e then amY else amH (num ds) e)
theorem cbZ{m:Nat}{k:Int}(hm:0<m)(hk: -2000≤k)(h0:k<0):bdY m (10^(-k).toNat) (rK m (10^(-k).toNat))=amH m k:=by
 unfold amH;rw[aI];have hbl:=akV (-k).toNat;have ht:=acW (-k).toNat;have hb:=afE hm;refine(bmO ht ?_ (by unfold rK;omega) aA).symm;have h1:=avN hm;have h2:=ahO (10^(-k).toNat);have h3:2^65≤m*2^rK m (10^(-k).toNat)/10^(-k).toNat:=by
  rw[dJ ht];refine aZ (bV _ (cT h2)) (aZ ?_ (bC _ h1));rw[←bI,←bI];exact aW aC (by unfold rK;omega)
 have:=qQ.2 h3;omega
theorem brS{r:Nat}:decide ((0:Int)<((zE r).length:Int))=decide (r≠0):=by
 refine aT.2 ⟨λh q=>?_,λh=>?_⟩
 ·subst q;rw[show zE 0=[] by decide+kernel]at h;simp at h
 rw[qR (eI h)];simp only[aX];omega
def bvV(ds:List UInt8)(H:Heap):Nat→Env→Heap→Prop:=λk env H1=>∃(i:Nat)(tl:Tail),i≤ds.length∧env=[(0,.str ds),(3,.slice 1 (U .u32 (zE (num (ds.take i)))) tl),(4,.int .i64 (i:Int))]∧H=H1∧k=ds.length-i
theorem biO(ds:List UInt8)(hd:Digs ds)(hl:ds.length≤1200)(H:Heap):ACall prog 81 [.str ds] H (λy H'=>y=qL (num ds)∧H'=H):=by
 refine ACall.of_body func81 rfl ntmps81 results81 rfl ?_;iterate 7 refine AX ?_
 refine .e rfl (anC U107 Z166 V166) ?_;iterate 10 refine AM ?_
 refine AWP.loopW (bvV ds H) (ds.length) ⟨0,.full,Nat.zero_le _,rfl,rfl,rfl⟩ (zI rfl (zM rfl (adI rfl) (zI rfl yJ))) (hRa _) ?_;rintro _ _ _ ⟨i,tl,hi,rfl,rfl,hk⟩;have hbl:=cgJ (hd.take i);have htl:(ds.take i).length≤1200:=by rw[aS];omega
 have hl:=yI (n:=num (ds.take i)) (afV aA);iterate 9 refine AX ?_
 refine AWP.cond (tm rfl) (λhc9=>?_) (λhc9=>?_)
 ·try simp only[aO]at hc9
  have hil:i<ds.length:=by omega
  have hdi:=hd.at hil;have hdi2:48≤(ds.getD ((i:Nat):Int).toNat 0).toNat∧(ds.getD ((i:Nat):Int).toNat 0).toNat≤57:=hdi;have hl2:=yI (n:=val (zE (num (ds.take i)))*val [10]) (afV (by have h1:=bkP (num (ds.take i));rw[zG];show zY (num (ds.take i)*10)≤_;omega));iterate 4 refine AX ?_
  refine AWP.draw [(0,true),(1,true),(2,true),(3,true),(4,true),(5,true),(6,true),(7,true),(8,true),(9,true),(10,true)] rfl aE ?_;refine AX ?_;refine APlan.f rfl rfl (λ_=>qM U107 Z166 V166 rfl (zR 10) (.inl rfl) ⟨rfl,rfl⟩) ?_;refine APlan.f rfl rfl (λ_=>zB C83 (evs2 rfl rfl) (abN (zE (num (ds.take i))) tl (zF _) aA [10] .full (Limbs.mk aC Limbs.nil) aC _)) ?_;refine AX ?_;refine .p rfl rfl (zP (tm rfl)) (.p rfl rfl (abB U9 (tm rfl) (tm rfl) aA aA) (.p rfl rfl (axU (tm rfl) (zR 48) aA aA) (.p rfl rfl (aaD U5 U166 (tm rfl) (wrapN32 aA)) ?_)));refine APlan.f rfl rfl (λ_=>qM U107 Z166 V166 rfl (tm rfl) (.inl rfl) ⟨rfl,rfl⟩) ?_;refine APlan.f rfl rfl (λ_=>zB call149 (evs2 rfl rfl) (atT (zE (val (zE (num (ds.take i)))*val [10])) .shared (zF _) aA [(ds.getD i 0).toNat-48] .full (Limbs.mk aA Limbs.nil) aF _)) ?_;iterate 10 refine AM ?_
  refine Round.mk (J:=bvV ds H) ⟨i+1,.shared,by omega,rfl,rfl,rfl⟩ (zI rfl (zM rfl (congrArg qL (show _=num (ds.take (i+1)) by rw[zG,zG,bnB hil];rfl)) (zI rfl yJ))) (hRa _) aA
 try simp only[aM,cO]at hc9
 iterate 12 refine AX ?_
 refine Ret.go (.cons (.weak _ _ _ rfl (.slice _ _ _)) .nil) _ (hRa _) ?_;refine⟨?_,rfl⟩;rw[show i=ds.length by omega,dK];rfl
theorem atC(neg:Bool)(x:Nat)(hx:x<9223372036854775808):Fn 80 [.bool neg,.int .u64 (x:Int)] (.int .u64 ((qG neg+x:Nat):Int)):=by
 intro H;refine .of_body func80 rfl ntmps80 results80 rfl ?_;iterate 11 refine AM ?_
 refine .cx rfl (λhc5=>?_) (λhc5=>?_)
 ·iterate 10 refine AM ?_
  refine⟨?_,rfl⟩;unfold qG;rw[aN aB,dS];rfl
 iterate 10 refine AX ?_
 refine⟨?_,rfl⟩;unfold qG;rw[aL aH,bZ];rfl
theorem beG(neg:Bool)(ds:List UInt8)(e:Int)(hr:qE ds e=true)(hl:ds.length≤1000)(H:Heap):ACall prog 29 [dA neg ds e] H (λy H'=>y= .int .u64 ((bgX neg ds e:Nat):Int)∧H'=H):=by
 have hd:=qJ hr;have hnb:=cgJ hd;have hrl:=qT hr;refine ACall.of_body func29 rfl ntmps29 results29 rfl ?_;iterate 2 refine AX ?_
 refine .e rfl (aeC (tm rfl) (.inr ⟨_,rfl⟩)) ?_;iterate 6 refine AM ?_
 refine .cl rfl call79 (evs1 rfl) (akJ neg ds e (by rw[zJ];omega) _) ?_;rw[show ajP ds e=(ds.length:Int)+e by unfold ajP;rw[aN hr]];iterate 5 refine AX ?_
 refine AWP.seqTo 11 (.bool (decide (ds=[]∨(ds.length:Int)+e< -400))) [1,2,3] ?_ ?_
 ·refine AX ?_;refine .p rfl (zA U58 rfl Z9 (tm rfl)) ?_;iterate 4 refine AX ?_
  refine zC (t:=16) rfl (λhg16=>?_) (λhg16=>?_)
  ·iterate 5 refine AX ?_
   exact⟨rfl,zL rfl (by(simp_all;done)) sX,rfl⟩
  iterate 5 refine AX ?_
  exact⟨rfl,zL rfl (by(simp_all;done)) sX,rfl⟩
 refine AWP.sub [(11,_),(1,_),(2,_),(3,_)] sX ?_;refine AWP.cond (tm rfl) (λhc11=>?_) (λhc11=>?_)
 ·try simp only[aO]at hc11
  have hc0:ds=[]∨(ds.length:Int)+e< -400:=hc11;iterate 2 refine AX ?_
  refine .p rfl (zA U58 rfl Z4 (tm rfl)) ?_;refine AX ?_;refine .cl rfl call80 (.cons (tm rfl) (.cons (zR 0) .nil)) (atC neg 0 aC _) ?_;iterate 6 refine AX ?_
  refine Ret.go (.cons (.tmp _ _ rfl) .nil) _ (hRa _) ?_;exact⟨congrArg (λw:Nat=>AV.int .u64 (w:Int)) (show _=bgX neg ds e by unfold bgX;rw[aN hc0]),rfl⟩
 try simp only[aM]at hc11
 have hc0:¬(ds=[]∨(ds.length:Int)+e< -400):=hc11;have hne:ds≠[]:=λq=>hc0 (.inl q);iterate 7 refine AX ?_
 refine AWP.cond (tm rfl) (λhc23=>?_) (λhc23=>?_)
 ·try simp only[aO]at hc23
  iterate 2 refine AX ?_
  refine .p rfl (zA U58 rfl Z4 (tm rfl)) ?_;refine AX ?_;refine .cl rfl call80 (.cons (tm rfl) (.cons (zR 9218868437227405312) .nil)) (atC neg 9218868437227405312 aC _) ?_;iterate 6 refine AX ?_
  refine Ret.go (.cons (.tmp _ _ rfl) .nil) _ (hRa _) ?_;exact⟨congrArg (λw:Nat=>AV.int .u64 (w:Int)) (show _=bgX neg ds e by unfold bgX;rw[aL hc0,aJ];rfl),rfl⟩
 try simp only[aM,cO]at hc23
 have hnl:=yI (n:=num ds) (afV aA);have hn0:0<num ds:=bM (acW _) (bdM hr hne).1;iterate 2 refine AX ?_
 refine Next.go ?_;refine .seq (.region (.p rfl (zA U58 rfl Z9 (tm rfl)) (.p rfl (qH G9 (tm rfl)) (.cl rfl call81 (evs1 rfl) (biO ds hd aA _) (.as rfl rfl (.nil ?_))))));refine Next.go ?_;refine .seq (.seq (.region (.p rfl (zA U58 rfl Z3 (tm rfl)) ?_)));iterate 4 refine AX ?_
 refine AWP.cond (tm rfl) (λhc34=>?_) (λhc34=>?_)
 ·try simp only[aO]at hc34
  have hbe:=alS e.toNat;have htl:=yI (n:=10^e.toNat) (afV aA);have hml:=yI (n:=num ds*10^e.toNat) (afV (cmO hd aA));refine AX ?_;refine AWP.draw [(0,true),(1,true),(2,true),(3,true),(4,true),(5,false),(6,true),(7,false),(8,true)] rfl aE ?_;refine .p rfl rfl (zA U58 rfl Z4 (tm rfl)) ?_;iterate 2 refine AX ?_
  refine .p rfl rfl (zA U58 rfl Z3 (tm rfl)) ?_;refine AX ?_;refine .s rfl rfl (zB call84 (evs1 rfl) (axN e.toNat aA _ aA (afV (by have:=alS e.toNat;omega)) _)) ?_;rintro _ _ ⟨rfl,hH⟩;obtain rfl:=hH.symm;refine APlan.f rfl rfl (λ_=>zB C83 (evs2 rfl rfl) (abN (zE (num ds)) .shared (zF _) aA (zE (10^e.toNat)) .shared (zF _) aA _)) ?_;refine .s rfl rfl (zB C82 (.cons (tm rfl) (.cons (tm rfl) (.cons zH (.cons yK .nil)))) (ahF neg (zE (val (zE (num ds))*val (zE (10^e.toNat)))) .shared (zF _) (by rw[zG,zG];omega) 0 aC false _)) ?_;rintro _ _ ⟨rfl,hH⟩;obtain rfl:=hH.symm;iterate 4 refine AX ?_
  refine Next.rt ?_;refine Ret.go (.cons (.tmp _ _ rfl) .nil) _ (hRa _) ?_;have e1:zV neg (val (zE (val (zE (num ds))*val (zE (10^e.toNat))))) 0 false=bgX neg ds e:=by
   unfold bgX amH;rw[aL hc0,aI,aJ,axP,zG,zG,zG]
  exact⟨congrArg (λw:Nat=>AV.int .u64 (w:Int)) e1,rfl⟩
 try simp only[aM,dO]at hc34
 have hbe:=alS (-e).toNat;have htl:=yI (n:=10^(-e).toNat) (afV aA);have hbp:=acW (-e).toNat;have hbb:=afE hbp;have hnp:=afE hn0;have hk:rK (num ds) (10^(-e).toNat)=zY (10^(-e).toNat)+70-zY (num ds):=rfl;have hup:num ds*2^rK (num ds) (10^(-e).toNat)<BIG:=afV (by rw[boQ hn0];omega);have hul:=yI hup;have hql:=yI (n:=num ds*2^rK (num ds) (10^(-e).toNat)/10^(-e).toNat) (aU (cY _ _) hup);refine .skip ?_;refine Next.go ?_;refine .seq (.region (.p rfl (zA U58 rfl Z3 (tm rfl)) (.p rfl (qH G3 (tm rfl)) (.p rfl (bmR (tm rfl) aA) (.cl rfl call84 (evs1 rfl) (axN (-e).toNat aA _ aA (afV aA) _) (.as rfl rfl (.nil ?_)))))));refine Next.go ?_;refine .seq (.region (.p rfl (zT zH) (.nil ?_)));refine Next.go ?_;refine AWP.seqToL [(6,.int .i64 ((rK (num ds) (10^(-e).toNat):Nat):Int))] [1,2,4,5] ?_ ?_
 ·refine .seq (.region (.mv rfl rfl (.cl rfl C85 (evs1 rfl) (aiH (zE (10^(-e).toNat)) .shared (zF _) aA _) ?_)));rw[zG];refine .mv rfl rfl (.cl rfl C85 (evs1 rfl) (aiH (zE (num ds)) .shared (zF _) aA _) ?_);rw[zG];refine .p rfl (adK (tm rfl) (tm rfl) aA) (.p rfl (ahJ (tm rfl) zH aA) (.p rfl (afS (tm rfl) zH) (.nil ?_)));refine Next.go ?_;refine AWP.cond (tm rfl) (λhc53=>?_) (λhc53=>?_)
  ·try simp only[aO]at hc53
   refine .region (.mv rfl rfl (.cl rfl C85 (evs1 rfl) (aiH (zE (10^(-e).toNat)) .shared (zF _) aA _) ?_));rw[zG];refine .mv rfl rfl (.cl rfl C85 (evs1 rfl) (aiH (zE (num ds)) .shared (zF _) aA _) ?_);rw[zG];refine .p rfl (adK (tm rfl) (tm rfl) aA) (.p rfl (ahJ (tm rfl) zH aA) (.as rfl rfl (.nil ?_)));exact⟨rfl,(zM rfl (by(rw[hk];exact congrArg (AV.int .i64) aA)) sX),rfl⟩
  try simp only[aM,cO]at hc53
  refine .skip ?_;exact⟨rfl,(zM rfl (by(rw[hk];exact congrArg (AV.int .i64) aA)) sX),rfl⟩
 refine AWP.sub [(6,_),(1,_),(2,_),(4,_),(5,_)] sX ?_;refine .seq (.region (.mv rfl rfl (.mv rfl rfl (.cl rfl C87 (evs2 rfl rfl) (akG (zE (num ds)) .shared (zF _) aA (rK (num ds) (10^(-e).toNat)) aA _ rfl (by rw[zG];exact hup) _) ?_))));rw[zG];refine .mv rfl rfl (.cl rfl C86 (evs2 rfl rfl) (akK (zE (num ds*2^rK (num ds) (10^(-e).toNat))) .shared (zF _) aA (zE (10^(-e).toNat)) .shared (zF _) aA (by rw[zG];exact hbp) _) ?_);rw[zG];rw[zG];refine .mv rfl rfl (.p rfl (yL (tm rfl) rfl) (.p rfl (yL (tm rfl) rfl) (.as rfl rfl (.as rfl rfl (.nil ?_)))));refine Next.go ?_;refine .seq (.region (.p rfl (zA U58 rfl Z4 (tm rfl)) ?_));iterate 7 refine AX ?_
 refine .cl rfl C82 (.cons (tm rfl) (evs3 rfl rfl rfl)) (ahF neg (zE (num ds*2^rK (num ds) (10^(-e).toNat)/(10^(-e).toNat))) .shared (zF _) aA (-((rK (num ds) (10^(-e).toNat):Nat):Int)) aA _ _) ?_;iterate 4 refine AX ?_
 refine Ret.go (.cons (.tmp _ _ rfl) .nil) _ (hRa _) ?_;have hrr:=cbZ (m:=num ds) (k:=e) hn0 aA aA;unfold bdY at hrr;have e1:zV neg (val (zE (num ds*2^rK (num ds) (10^(-e).toNat)/10^(-e).toNat))) (-((rK (num ds) (10^(-e).toNat):Nat):Int)) (decide ((0:Int)<((zE (num ds*2^rK (num ds) (10^(-e).toNat)%10^(-e).toNat)).length:Int)))=bgX neg ds e:=by
  unfold bgX;rw[aL hc0,aI,axP,zG,brS,hrr]
 exact⟨congrArg (λw:Nat=>AV.int .u64 (w:Int)) e1,rfl⟩
theorem bvU{neg:Bool}{e:Int}(hr:qE ds e=true):bgX neg ds e=akQ neg ds e:=by
 unfold bgX akQ;congr 1;by_cases h0:ds=[]
 ·unfold akB;rw[aN (.inl h0),aN (.inl h0)]
 by_cases h1:(ds.length:Int)+e< -400
 ·unfold akB;rw[aN (.inr h1),aN (.inr aA)]
 by_cases h2:400<(ds.length:Int)+e
 ·unfold akB;rw[aL (by simp[h0,h1]),aN h2,aL (by simp[h0];omega),aJ]
 rw[aL (by simp[h0,h1]),aL h2,buP hr h0 ⟨by omega,by omega⟩]
end
end Go.Proofs.YtmmgbnolccpjoaaGreatDoor
