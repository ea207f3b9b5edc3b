import Derived.Test.YtmmgbnolccpjoaaGreatDoorM1
set_option maxHeartbeats 1000000
namespace Go.Proofs.YtmmgbnolccpjoaaGreatDoor
open Go.Proofs.Tryz
open Go Go.RowKit
variable{x:Nat}
section
set_option maxRecDepth 100000
theorem aqV(a:Nat)(ha:a<18446744073709551616):Fn 114 [.int .u64 (a:Int)] (.bool (decide (zK a=4))):=by
 intro H;refine .of_body func114 rfl ntmps114 results114 rfl ?_;iterate 8 refine AX ?_
 refine .cl rfl C25 (evs1 rfl) (qA _ aB _) ?_;iterate 6 refine AX ?_
 refine⟨?_,rfl⟩;exact congrArg AV.bool (aT.2 aA)
theorem ahG(a:Nat)(ha:a<18446744073709551616)(H:Heap):ACall prog 115 [.int .u64 (a:Int)] H (λy H'=>y= .int .i64 (baG a)∧H'=H):=by
 refine ACall.of_body func115 rfl ntmps115 results115 rfl ?_;refine AX ?_;refine .region (.p rfl (zT zH) (.nil ?_));refine Next.go ?_;refine .seq (.seq (.region (.mv rfl rfl (.p rfl (afT (tm rfl) (zR 9223372036854775808)) (.nil ?_)))));refine Next.go ?_;refine AWP.cond (tm rfl) (λhc4=>?_) (λhc4=>?_)
 ·try simp only[aO]at hc4
  refine .seq (.region (.mv rfl rfl (.p rfl (abE (tm rfl) (zR 9223372036854775808) aA aB) (.p rfl (aaD U22 U3 (tm rfl) (wrapI64 aA aA)) ?_))));iterate 6 refine AX ?_
  refine Ret.go (.cons (.tmp _ _ rfl) .nil) _ (hRa _) ?_;refine⟨?_,rfl⟩;unfold baG;rw[aJ];exact congrArg (AV.int .i64) aA
 try simp only[aM,dO]at hc4
 iterate 10 refine AX ?_
 refine Ret.go (.cons (.tmp _ _ rfl) .nil) _ (hRa _) ?_;refine⟨?_,rfl⟩;unfold baG;rw[aI];rfl
def okN(a b:Nat):Bool:=decide (¬(zK a=4∨zK b=4))
theorem atW(a b:Nat)(ha:a<18446744073709551616)(hb:b<18446744073709551616):Fn 52 [.int .u64 (a:Int),.int .u64 (b:Int)] (.tuple [.int .i64 (afJ a b),.bool (okN a b)]):=by
 intro H;refine .of_body func52 rfl ntmps52 results52 rfl ?_;iterate 7 refine AX ?_
 refine .seqTo 11 (.bool (decide (zK a=4∨zK b=4))) [0,1,4,5] ?_ ?_
 ·iterate 2 refine AX ?_
  refine .cl rfl call114 (evs1 rfl) (aqV _ aB _) ?_;refine AX ?_;refine zC (t:=8) rfl (λhg8=>?_) (λhg8=>?_)
  ·have hh8:=hg8;try simp only[aO]at hh8
   iterate 4 refine AX ?_
   exact⟨rfl,zL rfl (by(refine Eq.symm ?_;exact aY aA)) sX,rfl⟩
  have hh8:=hg8;try simp only[aM]at hh8
  refine AX ?_;refine .gs rfl rfl rfl aB (zB call114 (evs1 rfl) (aqV _ aB _)) ?_;rintro _ _ ⟨rfl,hH⟩;obtain rfl:=hH.symm;iterate 2 refine AX ?_
  exact⟨rfl,zL rfl (by(refine Eq.symm ?_;exact aT.2 aA)) sX,rfl⟩
 refine .sub [(11,_),(0,_),(1,_),(4,_),(5,_)] sX ?_;refine .cx rfl (λhc11=>?_) (λhc11=>?_)
 ·iterate 9 refine AX ?_
  refine⟨?_,rfl⟩;unfold afJ okN;rw[aJ,bB aA];rfl
 iterate 6 refine AX ?_
 refine .cl rfl C115 (evs1 rfl) (ahG _ aB _) ?_;refine AX ?_;refine .cl rfl C115 (evs1 rfl) (ahG _ aB _) ?_;iterate 3 refine AX ?_
 refine .cx rfl (λhc16=>?_) (λhc16=>?_)
 ·iterate 9 refine AX ?_
  refine⟨?_,rfl⟩;unfold afJ okN;rw[aI,aJ,aY aA];rfl
 iterate 6 refine AX ?_
 refine .cl rfl C115 (evs1 rfl) (ahG _ aB _) ?_;refine AX ?_;refine .cl rfl C115 (evs1 rfl) (ahG _ aB _) ?_;iterate 3 refine AX ?_
 refine .cx rfl (λhc21=>?_) (λhc21=>?_)
 ·iterate 9 refine AX ?_
  refine⟨?_,rfl⟩;unfold afJ okN;rw[aI,aI,aJ,aY aA];rfl
 iterate 10 refine AX ?_
 refine⟨?_,rfl⟩;unfold afJ okN;rw[aI,aI,aI,aY aA];rfl
theorem ahH(a:Nat)(ha:a<18446744073709551616):Fn 75 [.int .u64 (a:Int)] (.int .i64 (afJ a 0)):=by
 intro H;refine .of_body func75 rfl ntmps75 results75 rfl ?_;iterate 8 refine AX ?_
 refine .cl rfl call52 (.cons (tm rfl) (.cons (zR 0) .nil)) (atW _ _ aB aC _) ?_;iterate 15 refine AX ?_
 exact⟨rfl,rfl⟩
def cjY(x:Nat):Int:=if 0≤yG x then-1 else arE (2*(yF x%2^(-yG x).toNat)) (2^(-yG x).toNat)
def exP(x:Nat):Bool:=decide (0≤yG x)||decide (yF x%2^(-yG x).toNat=0)
theorem ckG(h:0≤yG x):exP x=true∧cjY x= -1∧aeY x=yF x*2^(yG x).toNat:=⟨by unfold exP;rw[aY h];rfl,aN h,aN h⟩
theorem ckH(h:¬0≤yG x):exP x=decide (yF x%2^(-yG x).toNat=0)∧cjY x=arE (2*(yF x%2^(-yG x).toNat)) (2^(-yG x).toNat)∧aeY x=yF x/2^(-yG x).toNat:=⟨by unfold exP;rw[bB h];rfl,aL h,aL h⟩
theorem blM(x:Nat):aeY x<BIG:=by
 have h1:=qD x;have h2:=yM x;unfold aeY;split
 ·exact awW h1 aA
 exact aU (cY _ _) (cL h1 amW)
theorem cgH(k:Nat):1*2^k=2^k:=cK _
theorem bhM{k:Nat}(h:k≤2000):2^k<BIG:=by have:=awW (x:=1) (k:=k) aC aA;rwa[cK]at this
theorem btY{k:Nat}(h:k≤2000):2*(x%2^k)<BIG:=by
 have h1:=bU x (Nat.two_pow_pos k);have h2:2^(k+1)<BIG:=by have:=awW (x:=1) (k:=k+1) aC aA;rwa[cK]at this
 rw[bQ]at h2;omega
theorem bTwice(n:Nat)(hn:n<BIG):Fn 154 [qL n,.bool false] (qL (2*n)):=by
 intro H;have h:=akH (zE n) .shared (zF n) (aZ (yI hn) aC) false H;rw[zG]at h;exact h
theorem anM(a:Nat)(ha:a<18446744073709551616):Fn 200 [.int .u64 (a:Int)] (.tuple [qL (aeY a),.int .i64 (cjY a),.bool (exP a)]):=by
 intro H;have hpa:=qD a;have hea:=yM a;have hxa:=cL hpa amW;have hmB:yF a%2^(-yG a).toNat<BIG:=aU (Nat.mod_le _ _) hxa;refine .of_body func200 rfl ntmps200 results200 rfl ?_;iterate 3 refine AM ?_
 iterate 7 refine AX ?_
 refine .cl rfl C129 (evs1 rfl) (abO _ aB _) ?_;iterate 12 refine AX ?_
 refine .cl rfl C130 (evs1 rfl) (adV _ aA _) ?_;iterate 10 refine AX ?_
 refine .cx rfl (λhc22=>?_) (λhc22=>?_)
 ·obtain⟨e1,e2,e3⟩:=ckG hc22;iterate 4 refine AX ?_
  refine .cl rfl C87 (evs2 rfl rfl) (bUp _ (yG a).toNat _ aA aA hxa (awW hpa aA) _) ?_;iterate 8 refine AX ?_
  refine⟨?_,rfl⟩;rw[e1,e2,e3];rfl
 obtain⟨e1,e2,e3⟩:=ckH (x:=a) aA;iterate 4 refine AX ?_
 refine .e rfl (qM U107 Z166 V166 rfl (zR 1) (.inl rfl) ⟨rfl,rfl⟩) ?_;iterate 2 refine AX ?_
 refine .cl rfl C87 (evs2 rfl rfl) (akG [1] .full (Limbs.mk aC Limbs.nil) aC (-yG a).toNat aA _ aA (by rw[show val [1]=1 from rfl,cgH];exact bhM aA) _) ?_;rw[show val [1]=1 from rfl,cgH];iterate 7 refine AX ?_
 refine .cl rfl C86 (evs2 rfl rfl) (bParts _ _ hxa (bhM aA) (Nat.two_pow_pos _) _) ?_;iterate 10 refine AX ?_
 refine .cl rfl call154 (.cons (tm rfl) (.cons yK .nil)) (bTwice _ hmB _) ?_;iterate 8 refine AX ?_
 refine .cl rfl C155 (evs2 rfl rfl) (bCmp _ _ (btY aA) (bhM aA) _) ?_;iterate 10 refine AX ?_
 refine⟨?_,rfl⟩;rw[e1,e2,e3,aT.2 aoA];rfl
theorem awL(neg odd:Bool)(half:Int)(ex:Bool):Fn 252 [.int .i64 2,.bool neg,.bool odd,.int .i64 half,.bool ex] (.bool false):=by
 intro H;refine .of_body func252 rfl ntmps252 results252 rfl ?_;iterate 18 refine AX ?_
 refine .cond_false (tm rfl) aD ?_;iterate 6 refine AX ?_
 refine .cond_false (tm rfl) aD ?_;iterate 6 refine AX ?_
 refine .cond_false (tm rfl) aD ?_;iterate 6 refine AX ?_
 refine .cond_false (tm rfl) aD ?_;iterate 6 refine AX ?_
 refine .cond_false (tm rfl) aD ?_;iterate 10 refine AX ?_
 exact⟨rfl,rfl⟩
theorem bBit0(n:Nat)(hn:n<BIG):Fn 151 [qL n,.int .i64 0] (.bool (decide (((n/2^0%2:Nat):Int)=1))):=by
 intro H;have h:=afX (zE n) .shared (zF n) (aZ (yI hn) aC) 0 aC 0 rfl H;rw[zG]at h;exact h
theorem atV(a:Nat)(ha:a<18446744073709551616):Fn 198 [.int .u64 (a:Int),.int .i64 2] (.tuple [.bool (aeK a),qL (aeY a)]):=by
 intro H;refine .of_body func198 rfl ntmps198 results198 rfl ?_;iterate 9 refine AX ?_
 refine .cl rfl call200 (evs1 rfl) (anM _ aB _) ?_;iterate 12 refine AX ?_
 refine .cl rfl C124 (evs1 rfl) (adB _ aB _) ?_;iterate 8 refine AX ?_
 refine .cl rfl C151 (.cons (tm rfl) (.cons zH .nil)) (bBit0 _ (blM a) _) ?_;iterate 2 refine AX ?_
 refine .cl rfl call252 (.cons (tm rfl) (.cons (tm rfl) (evs3 rfl rfl rfl))) (awL _ _ _ _ _) ?_;iterate 13 refine AX ?_
 refine .cond_false (tm rfl) aD ?_;iterate 12 refine AX ?_
 exact⟨rfl,rfl⟩
theorem bqM(a:Nat)(ha:a<18446744073709551616):Fn 142 [.int .u64 (a:Int)] (.bool (isN a)):=by
 intro H;refine .of_body func142 rfl ntmps142 results142 rfl ?_;iterate 9 refine AX ?_
 refine .cl rfl C25 (evs1 rfl) (qA _ aB _) ?_;iterate 3 refine AX ?_
 refine .cx rfl (λhc8=>?_) (λhc8=>?_)
 ·iterate 8 refine AX ?_
  refine⟨?_,rfl⟩;unfold isN;rw[bB aA];rfl
 iterate 5 refine AX ?_
 refine .cl rfl call200 (evs1 rfl) (anM _ aB _) ?_;iterate 17 refine AX ?_
 refine⟨?_,rfl⟩;unfold isN;rw[aY (show zK a<3 by omega)];rfl
theorem ayG{n:Nat}:(zE n).length≤2↔n<18446744073709551616:=by
 rw[qK,show(4294967296:Nat)^2=18446744073709551616 by decide]
theorem cdY {xs : List Nat} (hx : Limbs xs) (hl : xs.length ≤ 2) {i : Nat} (h0 : 0 < i) (hi : i ≤ xs.length) : val (xs.drop i) < 4294967296 ∧ val (xs.drop (i - 1)) = val (xs.drop i) * 2 ^ 32 + xs.getD (i - 1) 0 := by
 match xs, hl with
 | [], _ => simp at hi; omega
 | [x], _ => have : i = 1 := by simp at hi; omega
             subst this; simp [val]
 | [x, y], _ =>
  have hy := hx.getD 1
  simp only [dG, cI] at hy
  have : i = 1 ∨ i = 2 := by simp at hi; omega
  rcases this with rfl | rfl
  ·simp [val]; omega
  simp [val]
 | _ :: _ :: _ :: _, h => simp at h
theorem cdZ{v:Nat}(hv:v<4294967296)(hx:x<4294967296):v*2^32+x<18446744073709551616∧v*2^32<18446744073709551616:=by
 rw[show(2:Nat)^32=4294967296 by decide];omega
theorem ceB(xs:List Nat):val (xs.drop xs.length)=0:=by rw[fD];rfl
def bmA(n:Nat)(H:Heap):Nat→Env→Heap→Prop:=λk env H1=>∃i:Nat,i≤(zE n).length∧env=[(4,qL n),(5,.int .u64 ((val ((zE n).drop i):Nat):Int)),(6,.int .i64 ((i:Int)-1))]∧H=H1∧k=i
theorem baH(n:Nat)(hn:n<18446744073709551616):Fn 199 [qL n] (.tuple [.int .u64 (n:Int),.bool true]):=by
 intro H;have hll:=ayG.2 hn;have hLm:=zF n;refine .of_body func199 rfl ntmps199 results199 rfl ?_;iterate 9 refine AM ?_
 refine .cl rfl C153 (evs1 rfl) (qX (zE n) .shared (zF n) aA _) ?_;rw[zG];iterate 11 refine AX ?_
 refine .cond_false (tm rfl) (by exact bB aA) ?_;iterate 12 refine AM ?_
 iterate 5 refine AX ?_
 refine .loopW (bmA n H) ((zE n).length) ⟨(zE n).length,aV _,by rw[ceB],rfl,rfl⟩ sX (hRa _) ?_;rintro _ _ _ ⟨i,hi,rfl,rfl,hk⟩;iterate 7 refine AX ?_
 refine .cx rfl (λhc16=>?_) (λhc16=>?_)
 ·obtain⟨hd1,hd2⟩:=cdY hLm hll (i:=i) aA hi;have hg1:=hLm.getD (i-1);have hds:=cdZ hd1 hg1;iterate 6 refine AX ?_
  refine .p rfl (qB (tm rfl) (zR 32) aA (by exact hds.2)) ?_;iterate 2 refine AX ?_
  refine .p rfl (zW (i-1) U107 Z166 (tm rfl) (tm rfl) aA aA) ?_;iterate 2 refine AX ?_
  refine .p rfl (yV (tm rfl) (tm rfl) (by exact hds.1)) ?_;iterate 10 refine AX ?_
  refine Round.mk ⟨i-1,by omega,rfl,rfl,rfl⟩ (zI rfl (zM rfl (by rw[hd2]) (zM rfl (by(congr 1;omega)) yJ))) (hRa _) aA
 have hi0:i=0:=by omega
 subst hi0;iterate 14 refine AX ?_
 refine⟨?_,rfl⟩;rw[cU,zG];rfl
theorem baI(n:Nat)(hn:¬n<18446744073709551616)(hB:n<BIG):Fn 199 [qL n] (.tuple [.int .u64 0,.bool false]):=by
 intro H;have hll:¬(zE n).length≤2:=λq=>hn (ayG.1 q);have hl2:=yI hB;refine .of_body func199 rfl ntmps199 results199 rfl ?_;iterate 9 refine AM ?_
 refine .cl rfl C153 (evs1 rfl) (qX (zE n) .shared (zF n) aA _) ?_;rw[zG];iterate 11 refine AX ?_
 refine .cond_true (tm rfl) (by exact aY aA) ?_;iterate 9 refine AM ?_
 exact⟨rfl,rfl⟩
theorem biQ(a:Nat)(ha:a<18446744073709551616)(hw:aeY a<18446744073709551616):Fn 141 [.int .u64 (a:Int),.int .i64 2] (.tuple [.int .i64 (awH a).1,.int .i64 (awH a).2]):=by
 intro H;refine .of_body func141 rfl ntmps141 results141 rfl ?_;iterate 17 refine AX ?_
 refine .cond_false (tm rfl) aD ?_;iterate 6 refine AX ?_
 refine .cl rfl C25 (evs1 rfl) (qA _ aB _) ?_;iterate 3 refine AX ?_
 refine .cx rfl (λhc18=>?_) (λhc18=>?_)
 ·iterate 9 refine AX ?_
  refine⟨?_,rfl⟩;unfold awH;rw[aJ];rfl
 iterate 6 refine AX ?_
 refine .cl rfl call198 (evs2 rfl rfl) (atV _ aB _) ?_;iterate 10 refine AX ?_
 refine .cl rfl call199 (evs1 rfl) (baH _ hw _) ?_;iterate 8 refine AX ?_
 refine .seqTo 43 (.bool (decide (((9223372036854775808:Nat):Int)<((aeY a:Nat):Int))||(decide (((aeY a:Nat):Int)=((9223372036854775808:Nat):Int))&& !aeK a))) [4,5,6,8] ?_ ?_
 ·iterate 8 refine AM ?_
  refine zC (t:=36) rfl (λhg36=>?_) (λhg36=>?_)
  ·have hh36:=hg36;try simp only[aO]at hh36
   iterate 8 refine AX ?_
   exact⟨rfl,zL rfl aH sX,rfl⟩
  have hh36:=hg36;try simp only[aM,cO]at hh36
  iterate 3 refine AM ?_
  refine zC (t:=39) rfl (λhg39=>?_) (λhg39=>?_)
  ·have hh39:=hg39;try simp only[aO]at hh39
   iterate 5 refine AX ?_
   exact⟨rfl,zL rfl (by(simp[*];done)) sX,rfl⟩
  have hh39:=hg39;try simp only[aM]at hh39
  iterate 5 refine AX ?_
  exact⟨rfl,zL rfl aH sX,rfl⟩
 refine .sub [(43,_),(4,_),(5,_),(6,_),(8,_)] sX ?_;refine .cx rfl (λhc43=>?_) (λhc43=>?_)
 ·have hz:9223372036854775808<aeY a∨(aeY a=9223372036854775808∧aeK a=false):=by
   simp only[cN,bL,aO,dX]at hc43;rcases hc43 with q|q
   ·exact .inl aA
   exact .inr ⟨by omega,q.2⟩
  iterate 9 refine AX ?_
  refine⟨?_,rfl⟩;unfold awH;rw[aI,aN (.inr hz)];rfl
 have hz:¬(9223372036854775808<aeY a∨(aeY a=9223372036854775808∧aeK a=false)):=by
  rintro(q|⟨q1,q2⟩)
  ·rw[aY aA]at hc43;simp at hc43
  rw[q2,aY (p:=((aeY a:Nat):Int)=_) aA]at hc43;simp at hc43
 iterate 8 refine AX ?_
 refine .cx rfl (λhc44=>?_) (λhc44=>?_)
 ·iterate 3 refine AX ?_
  refine .p rfl (akL (tm rfl)) (.p rfl (afY U22 U3 (tm rfl)) ?_);iterate 7 refine AX ?_
  refine⟨?_,rfl⟩;rw[bnF (n:=aeY a) aA];unfold awH;rw[aI,aL (λq=>q.elim (λq=>q hw) hz),aN hc44];rfl
 have hz2:¬aeY a=9223372036854775808:=λq=>hz (.inr ⟨q,hc44⟩);iterate 12 refine AX ?_
 refine⟨?_,rfl⟩;unfold awH;rw[aI,aL (λq=>q.elim (λq=>q hw) hz),aL (by rw[hc44];decide)];rfl
theorem biR(a:Nat)(ha:a<18446744073709551616)(hw:¬aeY a<18446744073709551616):Fn 141 [.int .u64 (a:Int),.int .i64 2] (.tuple [.int .i64 (awH a).1,.int .i64 (awH a).2]):=by
 intro H;refine .of_body func141 rfl ntmps141 results141 rfl ?_;iterate 17 refine AX ?_
 refine .cond_false (tm rfl) aD ?_;iterate 6 refine AX ?_
 refine .cl rfl C25 (evs1 rfl) (qA _ aB _) ?_;iterate 3 refine AX ?_
 refine .cx rfl (λhc18=>?_) (λhc18=>?_)
 ·iterate 9 refine AX ?_
  refine⟨?_,rfl⟩;unfold awH;rw[aJ];rfl
 iterate 6 refine AX ?_
 refine .cl rfl call198 (evs2 rfl rfl) (atV _ aB _) ?_;iterate 10 refine AX ?_
 refine .cl rfl call199 (evs1 rfl) (baI _ hw (blM a) _) ?_;iterate 26 refine AX ?_
 refine .cond_true (tm rfl) aD ?_;iterate 9 refine AX ?_
 refine⟨?_,rfl⟩;unfold awH;rw[aI,aN (.inl hw)];rfl
theorem bqL(a:Nat)(ha:a<18446744073709551616):Fn 141 [.int .u64 (a:Int),.int .i64 2] (.tuple [.int .i64 (awH a).1,.int .i64 (awH a).2]):=by
 intro H;by_cases hw:aeY a<18446744073709551616
 ·exact biQ a ha hw H
 exact biR a ha hw H
end
section
open Go Go.RowKit
set_option maxRecDepth 100000
theorem byC{x:Int}(h:x%2=0):Int.tdiv x 2=x/2:=Int.tdiv_eq_ediv_of_dvd (Int.dvd_of_emod_eq_zero h)
theorem arO{x:Int}:Int.tmod x 2=0↔x%2=0:=by rw[←Int.dvd_iff_tmod_eq_zero,Int.dvd_iff_emod_eq_zero]
theorem ceL{a b:Nat}:arE a b<0↔a<b:=by unfold arE;split<;>(try split)<;>omega
theorem clT(a:Nat):(sqK a=128∨sqK a=129)∧(yG a-(sqK a:Int))%2=0:=by unfold sqK;split<;>omega
theorem arS(n:Nat):∀k r,aaI n k r<r+2^k
 |0,r=>by rw[aaI,dI];omega
 |k+1,r=>by
  have h:=arS n k;rw[aaI,bQ];split
  ·have:=h (r+2^k);omega
  have:=h r;omega
theorem biN(a:Nat)(ha:a<18446744073709551616):Fn 144 [.int .u64 (a:Int)] (.int .u64 ((aqN a:Nat):Int)):=by
 intro H;have hka:=aaF a;have hpa:=qD a;have hea:=yM a;have hxa:=cL hpa amW;obtain⟨hsq,hse⟩:=clT a;have hsB:sqN a<BIG:=awW hpa aA;have hs2:sqN a<2^200:=bM ((Nat.mul_lt_mul_right (Nat.two_pow_pos _)).2 hpa) (aZ (bV 9007199254740992 (aW aC (show sqK a≤129 by omega))) aE);have hr1:aaI (sqN a) 100 0<BIG:=cL (arS _ 100 0) aE;have hr2:aaI (sqN a) 100 0*aaI (sqN a) 100 0<BIG:=aU (cS (cT (arS _ 100 0)) (cT (arS _ 100 0))) aE;refine .of_body func144 rfl ntmps144 results144 rfl ?_;iterate 7 refine AM ?_
 refine .seqTo 9 (.bool (decide (zK a=4∨9223372036854775808<a))) [0,2] ?_ ?_
 ·iterate 2 refine AX ?_
  refine .cl rfl C125 (evs1 rfl) (ahI _ aB _) ?_;refine AX ?_;refine zC (t:=12) rfl (λhg12=>?_) (λhg12=>?_)
  ·have hh12:=hg12;try simp only[aO]at hh12
   iterate 5 refine AX ?_
   exact⟨rfl,zL rfl (by(refine Eq.symm ?_;exact aY aA)) sX,rfl⟩
  have hh12:=hg12;try simp only[aM]at hh12
  iterate 5 refine AM ?_
  exact⟨rfl,zL rfl (by(refine Eq.symm ?_;exact aT.2 aA)) sX,rfl⟩
 refine .sub [(9,_),(0,_),(2,_)] sX ?_;refine .cx rfl (λhc9=>?_) (λhc9=>?_)
 ·iterate 9 refine AM ?_
  refine⟨?_,rfl⟩;unfold aqN;rw[aN hc9];rfl
 refine .seqTo 16 (.bool (decide (zK a=0∨zK a=3))) [0,2] ?_ ?_
 ·iterate 2 refine AX ?_
  refine .cl rfl C127 (evs1 rfl) (acG _ aB _) ?_;refine AX ?_;refine zC (t:=19) rfl (λhg19=>?_) (λhg19=>?_)
  ·have hh19:=hg19;try simp only[aO]at hh19
   iterate 5 refine AX ?_
   exact⟨rfl,zL rfl (by(refine Eq.symm ?_;exact aY aA)) sX,rfl⟩
  have hh19:=hg19;try simp only[aM]at hh19
  refine AX ?_;refine .gs rfl rfl rfl aB (zB C126 (evs1 rfl) (acH _ aB _)) ?_;rintro _ _ ⟨rfl,hH⟩;obtain rfl:=hH.symm;iterate 3 refine AX ?_
  exact⟨rfl,zL rfl (by(refine Eq.symm ?_;exact aT.2 aA)) sX,rfl⟩
 refine .sub [(16,_),(0,_),(2,_)] sX ?_;refine .cx rfl (λhc16=>?_) (λhc16=>?_)
 ·iterate 10 refine AX ?_
  refine⟨?_,rfl⟩;unfold aqN;rw[aL hc9,aN hc16];rfl
 iterate 6 refine AX ?_
 refine .cl rfl C129 (evs1 rfl) (abO _ aB _) ?_;iterate 14 refine AX ?_
 refine .seqToL [(6,.int .i64 ((sqK a:Nat):Int))] [2,4,5] ?_ ?_
 ·iterate 3 refine AX ?_
  refine .p rfl (alA (tm rfl) zH aA) ?_;iterate 3 refine AX ?_
  refine .cx rfl (λhc32=>?_) (λhc32=>?_)
  ·iterate 3 refine AX ?_
   exact⟨rfl,(zM rfl (by congr 1;unfold sqK;first|(rw[aN (λq=>by simp_all[arO])];rfl)|(rw[aL (λq=>by simp_all[arO])];rfl)) sX),rfl⟩
  refine AX ?_;exact⟨rfl,(zM rfl (by congr 1;unfold sqK;first|(rw[aN (λq=>by simp_all[arO])];rfl)|(rw[aL (λq=>by simp_all[arO])];rfl)) sX),rfl⟩
 refine .sub [(6,_),(2,_),(4,_),(5,_)] sX ?_;iterate 3 refine AX ?_
 refine .cl rfl C130 (evs1 rfl) (adV _ aA _) ?_;refine AX ?_;refine .cl rfl C87 (evs2 rfl rfl) (bUp _ (sqK a) _ rfl aA hxa hsB _) ?_;iterate 6 refine AX ?_
 refine .s rfl (zB call201 (.cons (tm rfl) (.cons zH .nil)) (biE _ hs2 _)) ?_;rintro _ _ ⟨⟨ws,tl,rfl,hwL,hwl,hwv⟩,hH⟩;obtain rfl:=hH.symm;iterate 9 refine AX ?_
 refine .p rfl (.as (b:=.int .i64 ((yG a-(sqK a:Int))/2)) (congrArg _ (byC hse)) (ccA (tm rfl) zH aA aA)) ?_;iterate 2 refine AX ?_
 refine .cl rfl C83 (evs2 rfl rfl) (abN ws tl hwL aA ws tl hwL aA _) ?_;rw[hwv];refine AX ?_;refine .cl rfl C155 (evs2 rfl rfl) (bCmp _ _ hr2 hsB _) ?_;refine AX ?_;refine .cl rfl C82 (.cons yK (evs3 rfl rfl rfl)) (ahF false ws tl hwL aA _ aA _ _) ?_;rw[hwv];iterate 5 refine AX ?_
 refine⟨?_,rfl⟩;unfold aqN;rw[aL hc9,aL hc16,aT.2 (ceL (a:=aaI (sqN a) 100 0*aaI (sqN a) 100 0) (b:=sqN a))];rfl
def bvD(a u:Nat)(n:Int)(H:Heap):Nat→Env→Heap→Prop:=λk env H1=>∃i:Nat,i≤64∧env=[(0,.int .u64 (a:Int)),(1,.int .i64 n),(5,.int .u64 (u:Int)),(6,.int .u64 ((apK a u 64 i:Nat):Int)),(7,.int .i64 (63-(i:Int)))]∧H=H1∧k=64-i
theorem bqJ(a:Nat)(ha:a<18446744073709551616)(n:Int)(hn: -1000000≤n∧n≤1000000):Fn 143 [.int .u64 (a:Int),.int .i64 n] (.int .u64 ((bdK a n:Nat):Int)):=by
 intro H;obtain⟨u,hu⟩:∃u,u=n.natAbs:=⟨_,rfl⟩;have hu64:u<18446744073709551616:=by omega
 refine .of_body func143 rfl ntmps143 results143 rfl ?_;iterate 9 refine AM ?_
 refine .cl rfl C125 (evs1 rfl) (ahI _ aB _) ?_;iterate 2 refine AX ?_
 refine .cx rfl (λhc9=>?_) (λhc9=>?_)
 ·iterate 8 refine AM ?_
  refine⟨?_,rfl⟩;unfold bdK;rw[aJ];rfl
 iterate 5 refine AX ?_
 refine .p rfl (afY U3 U22 (tm rfl)) ?_;iterate 3 refine AX ?_
 refine .seqToL [(5,.int .u64 ((u:Nat):Int))] [0,1,4] ?_ ?_
 ·iterate 6 refine AX ?_
  refine .cx rfl (λhc13=>?_) (λhc13=>?_)
  ·iterate 2 refine AX ?_
   refine .p rfl (akL (tm rfl)) ?_;iterate 2 refine AX ?_
   exact⟨rfl,(zM rfl (by rw[hu];congr 1;first|exact arV aA hn.1|(rw[wrap64 (n:=n) aA aA];omega)) sX),rfl⟩
  refine AX ?_;exact⟨rfl,(zM rfl (by rw[hu];congr 1;first|exact arV aA hn.1|(rw[wrap64 (n:=n) aA aA];omega)) sX),rfl⟩
 refine .sub [(5,_),(0,_),(1,_),(4,_)] sX ?_;iterate 8 refine AM ?_
 iterate 4 refine AX ?_
 refine .loopW (bvD a u n H) (64) ⟨0,Nat.zero_le _,rfl,rfl,rfl⟩ sX (hRa _) ?_;rintro _ _ _ ⟨i,hi,rfl,rfl,hk⟩;iterate 7 refine AX ?_
 refine .cx rfl (λhc17=>?_) (λhc17=>?_)
 ·have hpl:=apJ a u 64 i;have hml:=alH (apK a u 64 i) (apK a u 64 i);have hst:=powS (a:=a) (u:=u) (L:=64) (i:=i) rfl;rw[show(63-(i:Int))=((64-1-i:Nat):Int) by omega];simp only[bkB]at *;iterate 8 refine AX ?_
  refine .cl rfl call74 (evs2 rfl rfl) (apE _ _ aB aB _) ?_;iterate 13 refine AM ?_
  refine .cx rfl (λhc28=>?_) (λhc28=>?_)
  ·rw[aJ]at hst;iterate 3 refine AX ?_
   refine .cl rfl call74 (evs2 rfl rfl) (apE _ _ aB aB _) ?_;iterate 10 refine AX ?_
   refine Round.mk ⟨i+1,by omega,rfl,rfl,rfl⟩ (zI rfl (zI rfl (zI rfl (zM rfl (by rw[hst]) (zM rfl (by congr 1;omega) yJ))))) (hRa _) aA
  rw[aI]at hst;iterate 9 refine AX ?_
  refine Round.mk ⟨i+1,by omega,rfl,rfl,rfl⟩ (zI rfl (zI rfl (zI rfl (zM rfl (by rw[hst]) (zM rfl (by congr 1;omega) yJ))))) (hRa _) aA
 have hi64:i=64:=by omega
 subst hi64;have hpl:=apJ a u 64 64;iterate 12 refine AX ?_
 refine .cx rfl (λhc33=>?_) (λhc33=>?_)
 ·iterate 3 refine AX ?_
  refine .cl rfl call59 (.cons (zR 4607182418800017408) (evs1 rfl)) (apF _ _ aC aB _) ?_;iterate 6 refine AX ?_
  refine⟨?_,rfl⟩;unfold bdK;rw[aI,aJ];rw[←hu];rfl
 iterate 10 refine AX ?_
 refine⟨?_,rfl⟩;unfold bdK;rw[aI,aI];rw[←hu];rfl
end
end Go.Proofs.YtmmgbnolccpjoaaGreatDoor
