import Derived.Test.YteedncdcbgplfaaGreatDoorP3
import Derived.Test.YteedncdcbgplfaaGreatDoorN3
set_option maxHeartbeats 1000000
namespace Go.Proofs.YteedncdcbgplfaaGreatDoor
open Go.Proofs.Tryz
open Go Go.RowKit
variable{k:Int}
section
set_option maxRecDepth 100000
theorem zr222:ZR 222 [.int .u64 0,.int .u64 0,.int .i64 0,.bool false]:=ZRi zeroValue222
theorem pl222:PL 222 [(0,2),(2,1),(3,1)]:=PLi U222
def six(w:Nat):List Nat:=[w%M1%2^IntKind.u32.bits,w%M1/2^32%2^IntKind.u32.bits,w/M1%M1%2^IntKind.u32.bits,w/M1%M1/2^32%2^IntKind.u32.bits,w/M2%2^IntKind.u32.bits,w/M2/2^32%2^IntKind.u32.bits]
theorem cfW{w:Nat}(h:w<M3):val (six w)=w:=by
 have h3:=bkA h;unfold six val;simp only[val,IntKind.bits];have e1:=cM w M1;have e2:=cM (w/M1) M1;rw[bkN]at e2;have ha:=agU w;generalize w%M1=a at *;generalize hb:w/M1=b at *;generalize w/M2=c at *;have hbm:b%M1<M1:=agU b;generalize b%M1=d at *;unfold M1 at *;omega
theorem brH(w:Nat):Limbs (six w):=by
 have k:∀x:Nat,x%2^IntKind.u32.bits<4294967296:=λx=>bR _ aC;exact Limbs.mk (k _) (Limbs.mk (k _) (Limbs.mk (k _) (Limbs.mk (k _) (Limbs.mk (k _) (Limbs.mk (k _) Limbs.nil)))))
theorem round6(w:Nat)(h:w<M3)(e:Int)(he: -10000≤e∧e≤2000):Fn 273 [.bool false,.slice 1 (U .u32 (six w)) .full,.int .i64 e,.bool false] (.int .u64 ((yD false w e false:Nat):Int)):=by
 intro H;have q:=atF false (six w) .full (brH w) (by show 6≤1000;decide) e he false H;rw[cfW h]at q;exact q
theorem roundB(n:Nat)(h:n<BIG)(e:Int)(he: -10000≤e∧e≤2000)(more:Bool):Fn 273 [.bool false,qX n,.int .i64 e,.bool more] (.int .u64 ((yD false n e more:Nat):Int)):=by
 intro H;have q:=atF false (zF n) .shared (zH n) (by have:=yM h;omega) e he more H;rw[zN]at q;exact q
theorem awC(w:Nat)(hw:w<M3)(e:Int)(he: -10000≤e∧e≤2000):Fn 270 [u3 w,.int .i64 e] (.int .u64 ((yD false w e false:Nat):Int)):=by
 intro H;have hh:=bkA hw;have hm:=agU (w/M1);have hl:=agU w;have q1:w%M1<18446744073709551616:=hl;have q2:w/M1%M1<18446744073709551616:=hm;have q3:w/M2<18446744073709551616:=hh;refine .of_body func270 rfl ntmps270 results270 rfl ?_;iterate 8 refine AM ?_
 refine .p rfl (zA U324 rfl Z25 (tm rfl)) ?_;iterate 2 refine AX ?_
 refine .p rfl (zA U324 rfl Z25 (tm rfl)) ?_;iterate 3 refine AM ?_
 refine .p rfl (zA U324 rfl Z25 (tm rfl)) ?_;iterate 2 refine AX ?_
 refine .p rfl (zA U324 rfl Z25 (tm rfl)) ?_;iterate 3 refine AM ?_
 refine .p rfl (zA U324 rfl Z25 (tm rfl)) ?_;iterate 2 refine AX ?_
 refine .p rfl (zA U324 rfl Z25 (tm rfl)) ?_;iterate 3 refine AM ?_
 refine .e rfl (awY U159 Z210 V210 rfl rfl rfl (.cons (tm rfl) (.inl rfl) (.cons (tm rfl) (.inl rfl) (.cons (tm rfl) (.inl rfl) (.cons (tm rfl) (.inl rfl) (.cons (tm rfl) (.inl rfl) (.cons (tm rfl) (.inl rfl) .nil)))))) (afQ ⟨rfl,rfl⟩ (afQ ⟨rfl,rfl⟩ (afQ ⟨rfl,rfl⟩ (afQ ⟨rfl,rfl⟩ (afQ ⟨rfl,rfl⟩ (afQ ⟨rfl,rfl⟩ brW))))))) ?_;iterate 7 refine AX ?_
 refine .cl rfl call273 (.cons zT (.cons (tm rfl) (.cons (tm rfl) (.cons zT .nil)))) (round6 w hw e he _) ?_;iterate 5 refine AX ?_
 exact⟨rfl,rfl⟩
theorem aeV{j n:Nat}(hj:j≤1500)(hn:n≤3000):10^j*2^n<BIG∧10^j<BIG∧2^n<BIG:=by
 obtain⟨K,hK,hB⟩:∃K,K=8192∧BIG=2^K:=⟨32*256,rfl,atP _ rfl⟩;have h10:10^j≤2^(10*j/3+1):=by
  have h3:∀q r:Nat,r<3→10^(3*q+r)≤2^(10*q+(10*r/3+1)):=by
   intro q r hr;rw[bI,bI 2,dV,dV 2];refine eN (Nat.pow_le_pow_left aC q) ?_;rcases(by omega:r=0∨r=1∨r=2)with rfl|rfl|rfl<;>decide
  have:=h3 (j/3) (j%3) (bR _ aC);rw[show 3*(j/3)+j%3=j by omega]at this;refine bC this (bB aC aA)
 have h4:10^j*2^n≤2^(10*j/3+1+n):=by rw[bI];exact bD _ h10
 rw[hB];refine⟨bA h4 (eV aC ?_),bA h10 (eV aC ?_),eV aC ?_⟩<;>(clear h4 h10 hB;omega)
theorem akS(j:Nat):yN (10^j)≤10*j/3+2:=by
 rw[qI];have h3:∀q r:Nat,r<3→10^(3*q+r)<2^(10*q+(10*r/3+2)):=by
  intro q r hr;rw[bI,bI 2,dV,dV 2];refine Nat.mul_lt_mul_of_le_of_lt (Nat.pow_le_pow_left aC q) ?_ (bL aC);rcases(by omega:r=0∨r=1∨r=2)with rfl|rfl|rfl<;>decide
 have:=h3 (j/3) (j%3) (bR _ aC);rw[show 3*(j/3)+j%3=j by omega]at this;exact bQ this (bB aC aA)
theorem bjK:∀m:Nat,¬5∣2^m
 |0=>by decide
 |m+1=>λh=>by
  rw[bP]at h;have:=bjK m;omega
def anX(k:Int):AV:=.agg [.int .u64 ((abN k/M1:Nat):Int),.int .u64 ((abN k%M1:Nat):Int),.int .i64 (atW k),.bool (bdL k)]
theorem pow10Z(j:Nat)(q:Int)(hq:q=(j:Int))(hj:j≤1500):Fn 170 [.int .i64 10,.int .i64 q] (.tuple [qX (10^j),.int .i64 0]):=by
 intro H;subst hq;exact atG 10 j aC aC aA (aeV (n:=0) hj aC).2.1 H
theorem oneB(s:Nat)(q:Int)(hq:q=(s:Int))(hs:s≤3000):Fn 168 [.slice 1 [.int .u32 1] .full,.int .i64 q] (.tuple [qX (2^s),.int .i64 0]):=by
 intro H;subst hq;have h:=atE [1] .full (Limbs.mk aC Limbs.nil) aC s (by rw[show val [1]=1 from rfl,cQ];exact(aeV (j:=0) aC hs).2.2) aA H;rw[show val [1]=1 from rfl,cQ]at h;exact h
theorem biZ(h:k<0):abN k=2^(yN (10^(-k).toNat)+127)/10^(-k).toNat∧atW k= -((yN (10^(-k).toNat):Int)+127)∧bdL k=false:=by
 refine⟨?_,?_,?_⟩
 ·unfold abN;rw[aN h]
 ·unfold atW;rw[aN h];omega
 unfold bdL;rw[aN h]
theorem avP(h:¬k<0)(hb:yN (10^k.toNat)≤128):abN k=10^k.toNat*2^(128-yN (10^k.toNat))∧atW k=(yN (10^k.toNat):Int)-128∧bdL k=true:=by
 refine⟨?_,?_,?_⟩
 ·unfold abN;rw[aM h,aN hb]
 ·unfold atW;rw[aM h]
 unfold bdL;rw[aM h];exact aU (.inl hb)
theorem bjA(h:¬k<0)(hb:¬yN (10^k.toNat)≤128):abN k=10^k.toNat/2^(yN (10^k.toNat)-128)∧atW k=(yN (10^k.toNat):Int)-128∧bdL k=decide (10^k.toNat%2^(yN (10^k.toNat)-128)=0):=by
 refine⟨?_,?_,?_⟩
 ·unfold abN;rw[aM h,aM hb]
 ·unfold atW;rw[aM h]
 unfold bdL;rw[aM h];exact aQ.2 ⟨λq=>q.resolve_left hb,.inr⟩
theorem ayB(k:Int):abN k<M2:=by
 have e128:M2=2^128:=by decide+kernel
 rw[e128];rcases Int.lt_or_le k 0 with h|h
 ·rw[(biZ h).1];have ht:=acG (-k).toNat;have hlo:=asY ht;have hb:=aeI ht;rw[bW ht];rcases Nat.lt_or_eq_of_le hlo with hl|hl
  ·have e:2^(yN (10^(-k).toNat)+127)=2^128*2^(yN (10^(-k).toNat)-1):=by rw[←bI];congr 1;omega
   rw[e];exact fZ hl (bL aC)
  
  exfalso;have hj:0<(-k).toNat:=by omega
  have h5:10^(-k).toNat=2^(-k).toNat*5^(-k).toNat:=by rw[←Nat.mul_pow]
  have hodd:5∣2^(yN (10^(-k).toNat)-1):=by
   rw[hl,h5];exact Nat.dvd_trans (Nat.dvd_trans ⟨5^((-k).toNat-1),by rw[←Nat.pow_succ',show((-k).toNat-1).succ=(-k).toNat by omega]⟩ (Nat.dvd_mul_left _ _)) (Nat.dvd_refl _)
  exact bjK _ hodd
 rcases bX 128 (yN (10^k.toNat))with hl|hl
 ·rw[(bjA aA aA).1,bW (bL aC),←bI];refine bQ (afA _) (bB aC aA)
 rw[(avP aA hl).1];refine bQ (dE (afA _) (bL aC)) ?_;rw[←bI];exact bB aC aA
theorem shrZe(a s:Nat)(q:Int)(hq:q=(s:Int))(h:a<BIG)(hs:s<1000000000):Fn 169 [qX a,.int .i64 q] (.tuple [qX (a/2^s),.bool (decide (a%2^s≠0)),.int .i64 0]):=by
 intro H;subst hq;exact shrB a s h hs H
theorem shlQ(a s:Nat)(q:Int)(hq:q=(s:Int))(h:a*2^s<BIG)(hs:s<1000000000):Fn 168 [qX a,.int .i64 q] (.tuple [qX (a*2^s),.int .i64 0]):=by
 intro H;subst hq;exact shlB a s h hs H
theorem bzN(k:Int):abN k<BIG:=eG (ayB k) (by
  obtain⟨K,hK,hB⟩:∃K,K=8192∧BIG=2^K:=⟨32*256,rfl,atP _ rfl⟩;rw[hB,show M2=2^128 by decide+kernel];exact eV aC aA)
theorem valueP(k:Int):Fn 322 [qX (abN k)] (u2 (abN k)):=by
 intro H;have h:=bdS (abN k) (by have:=yM (bzN k);omega) H;rw[bH (ayB k)]at h;exact h
theorem bnR(k:Int)(hk: -400≤k∧k≤400):Fn 301 [.int .i64 k] (anX k):=by
 intro H;have hbl:=akS k.natAbs;have hp0:=acG k.natAbs;have htB:=(aeV (j:=k.natAbs) (n:=0) aA aC).2.1;refine .of_body func301 rfl ntmps301 results301 rfl ?_;iterate 2 refine AX ?_
 refine .al zr222 (λb2 hb2=>?_);iterate 8 refine AX ?_
 refine .cl rfl C170 (.cons zJ (evs1 rfl)) (pow10Z k.natAbs _ (by simp only[anA];split<;>omega) aA _) ?_;iterate 14 refine AX ?_
 refine .cx rfl (λhc23=>?_) (λhc23=>?_)
 ·have hP:=biZ (k:=k) aA;rw[show(-k).toNat=k.natAbs by omega]at hP;iterate 3 refine AX ?_
  refine .cl rfl C241 (evs1 rfl) (lenB _ htB _) ?_;iterate 6 refine AX ?_
  refine .e rfl (yJ U159 Z210 V210 rfl (yB 1) (.inl rfl) ⟨rfl,rfl⟩) ?_;refine AX ?_;refine .cl rfl C168 (evs2 rfl rfl) (oneB (yN (10^k.natAbs)+127) _ aA aA _) ?_;iterate 11 refine AX ?_
  refine .cl rfl call274 (evs2 rfl rfl) (apH _ _ (aeV (j:=0) aC aA).2.2 hp0 htB _) ?_;iterate 10 refine AX ?_
  rw[←hP.1];iterate 2 refine AX ?_
  refine .cl rfl call322 (evs1 rfl) (valueP k _) ?_;iterate 2 refine AX ?_
  refine .p rfl (yU zr222 pl222 (.cons (tm rfl) (.inr ⟨_,rfl⟩) (.cons (tm rfl) (.inl rfl) (.cons zT (.inl rfl) .nil))) rfl) ?_;iterate 3 refine AX ?_
  refine .frz (t:=2) rfl (hb2) ?_;iterate 3 refine AX ?_
  refine⟨?_,rfl⟩;unfold anX;rw[hP.2.1,hP.2.2];rfl
 have hkt:k.toNat=k.natAbs:=by omega
 iterate 5 refine AX ?_
 refine .cl rfl C241 (evs1 rfl) (lenB _ htB _) ?_;iterate 11 refine AX ?_
 refine .cx rfl (λhc49=>?_) (λhc49=>?_)
 ·have hP:=avP (k:=k) aA (by rw[hkt];omega);rw[hkt]at hP;iterate 5 refine AX ?_
  refine .cl rfl C168 (evs2 rfl rfl) (shlQ _ (128-yN (10^k.natAbs)) _ aA (aeV aA aA).1 aA _) ?_;iterate 7 refine AX ?_
  rw[←hP.1];iterate 2 refine AX ?_
  refine .cl rfl call322 (evs1 rfl) (valueP k _) ?_;refine AX ?_;refine .p rfl (yU zr222 pl222 (.cons (tm rfl) (.inr ⟨_,rfl⟩) (.cons (tm rfl) (.inl rfl) (.cons zT (.inl rfl) .nil))) rfl) ?_;iterate 3 refine AX ?_
  refine .frz (t:=2) rfl (hb2) ?_;iterate 3 refine AX ?_
  refine⟨?_,rfl⟩;unfold anX;rw[hP.2.1,hP.2.2];rfl
 have hP:=bjA (k:=k) aA (by rw[hkt];omega);rw[hkt]at hP;iterate 6 refine AX ?_
 refine .cl rfl C169 (evs2 rfl rfl) (shrZe _ (yN (10^k.natAbs)-128) _ aA htB aA _) ?_;iterate 10 refine AX ?_
 rw[←hP.1];iterate 2 refine AX ?_
 refine .cl rfl call322 (evs1 rfl) (valueP k _) ?_;iterate 3 refine AX ?_
 refine .p rfl (yU zr222 pl222 (.cons (tm rfl) (.inr ⟨_,rfl⟩) (.cons (tm rfl) (.inl rfl) (.cons (tm rfl) (.inl rfl) .nil))) rfl) ?_;iterate 3 refine AX ?_
 refine .frz (t:=2) rfl (hb2) ?_;iterate 2 refine AX ?_
 refine⟨?_,rfl⟩;unfold anX;rw[hP.2.1,hP.2.2];have e:(!decide (10^k.natAbs%2^(yN (10^k.natAbs)-128)≠0))=decide (10^k.natAbs%2^(yN (10^k.natAbs)-128)=0):=by simp
 rw[←e];rfl
end
section
open Go Go.RowKit
set_option maxRecDepth 100000
theorem zr353:ZR 353 [.int .i64 0,.int .i64 0,.int .i64 0,.int .i64 0]:=ZRi zeroValue353
theorem zr354:ZR 354 [.int .i64 0,.int .i64 0,.int .i64 0,.int .i64 0,.int .i64 0,.int .i64 0,.int .i64 0,.int .i64 0,.int .i64 0,.int .i64 0,.int .i64 0,.int .i64 0,.int .i64 0,.int .i64 0,.int .i64 0,.int .i64 0]:=ZRi zeroValue354
theorem zr372:ZR 372 [.int .i64 0,.int .i64 0,.int .i64 0,.int .i64 0,.int .i64 0]:=ZRi zeroValue372
def atZ(k:Nat):Nat:=if k=0 then 0 else if k≤2 then 1 else if k=3 then 2 else 3
theorem bjV(k:Nat):atZ k<4:=by
  unfold atZ
  repeat' split
  all_goals omega
theorem cbF{k:Nat}(h:k≤4):([.int .i64 0,.int .i64 1,.int .i64 1,.int .i64 2,.int .i64 3]:List AV)[((k:Nat):Int).toNat]?=some (.int .i64 ((atZ k:Nat):Int)):=by
 rcases(by omega:k=0∨k=1∨k=2∨k=3∨k=4)with rfl|rfl|rfl|rfl|rfl<;>rfl
def caH(p q:Nat):Int:=(([[6,6,1,1],[6,0,5,1],[1,5,5,1],[1,1,1,1]]:List (List Int)).getD p []).getD q 0
theorem caG{p q:Nat}(hp:p<4)(hq:q<4):((([.int .i64 6,.int .i64 6,.int .i64 1,.int .i64 1,.int .i64 6,.int .i64 0,.int .i64 5,.int .i64 1,.int .i64 1,.int .i64 5,.int .i64 5,.int .i64 1,.int .i64 1,.int .i64 1,.int .i64 1,.int .i64 1]:List AV).drop (((p:Nat):Int).toNat*4)).drop (((q:Nat):Int).toNat*1))[0]?=some (.int .i64 (caH p q)):=by
 rcases(by omega:p=0∨p=1∨p=2∨p=3)with rfl|rfl|rfl|rfl<;>rcases(by omega:q=0∨q=1∨q=2∨q=3)with rfl|rfl|rfl|rfl<;>rfl
def ayK(a b:Nat):Bool:=decide (((a/2^63:Nat):Int)≠((b/2^63:Nat):Int))
def aoB(a b:Nat):Nat:=
 if caH (atZ (yK a)) (atZ (yK b))=1 then 9221120237041090560
 else if caH (atZ (yK a)) (atZ (yK b))=5 then(if ayK a b=true then 18442240474082181120 else 9218868437227405312)
 else yD (ayK a b) (yA a*yA b) (zP a+zP b) false
section
variable{P:Program}{env:Env}{H:Heap}{dst:Option Tmp}{ty:TypeId}{pos:String}{af:Array Edge}{gd:Option (Nat×Bool)}
theorem bmX{T:TypeId}{x:Operand}{cs:List AV}{c:AV}(ha:∀w,(isAgg T).run P w= .ok false w)(hx:Ev env x (.iptr cs))(hc:cs[0]?=some c):APure P ⟨dst,.load T x,ty,pos,af,gd⟩ env c:=by
 match cs,hc with
 |d::ds,hc=>
  obtain rfl:d=c:=by simpa using hc
  exact zW ha hx
end
theorem atB(x:Nat)(hx:x<18446744073709551616):Fn 298 [.int .u64 (x:Int)] (.int .i64 ((atZ (yK x):Nat):Int)):=by
 intro H;have hk:=ayR x;refine .of_body func298 rfl ntmps298 results298 rfl ?_;iterate 7 refine AX ?_
 refine .p rfl (ajT underlying372 Z3 zr372 (.cons zJ (.inl rfl) (.cons zJ (.inl rfl) (.cons zJ (.inl rfl) (.cons zJ (.inl rfl) (.cons zJ (.inl rfl) .nil))))) rfl) ?_;refine AX ?_;refine .cl rfl C31 (evs1 rfl) (acY _ aB _) (.p rfl (bfJ underlying372 G3 Z3 (tm rfl) (tm rfl) aA aA (cbF hk)) ?_);iterate 5 refine AX ?_
 exact⟨rfl,rfl⟩
theorem bnP(a b:Nat)(ha:a<18446744073709551616)(hb:b<18446744073709551616):Fn 266 [.int .u64 (a:Int),.int .u64 (b:Int)] (.int .i64 (caH (atZ (yK a)) (atZ (yK b)))):=by
 intro H;have hka:=bjV (yK a);have hkb:=bjV (yK b);refine .of_body func266 rfl ntmps266 results266 rfl ?_;iterate 7 refine AX ?_
 refine .p rfl (ajT U353 Z3 zr353 (.cons zJ (.inl rfl) (.cons zJ (.inl rfl) (.cons zJ (.inl rfl) (.cons zJ (.inl rfl) .nil)))) rfl) (.p rfl (ajT U353 Z3 zr353 (.cons zJ (.inl rfl) (.cons zJ (.inl rfl) (.cons zJ (.inl rfl) (.cons zJ (.inl rfl) .nil)))) rfl) (.p rfl (ajT U353 Z3 zr353 (.cons zJ (.inl rfl) (.cons zJ (.inl rfl) (.cons zJ (.inl rfl) (.cons zJ (.inl rfl) .nil)))) rfl) (.p rfl (ajT U353 Z3 zr353 (.cons zJ (.inl rfl) (.cons zJ (.inl rfl) (.cons zJ (.inl rfl) (.cons zJ (.inl rfl) .nil)))) rfl) ?_)));refine .p rfl (ajT underlying354 sizeOf353 zr354 (.cons (tm rfl) (.inr ⟨_,rfl⟩) (.cons (tm rfl) (.inr ⟨_,rfl⟩) (.cons (tm rfl) (.inr ⟨_,rfl⟩) (.cons (tm rfl) (.inr ⟨_,rfl⟩) .nil)))) rfl) ?_;refine .al zr354 (λb5 hb5=>?_);iterate 3 refine AX ?_
 refine .frz (t:=5) rfl (hb5) ?_;refine AX ?_;refine .draw [(0,true),(1,true),(2,true),(3,true),(4,true),(5,true),(6,true),(7,true)] rfl aE ?_;refine AX ?_;refine .f rfl rfl (λ_=>zB call298 (evs1 rfl) (atB _ aB _)) ?_;refine AX ?_;refine .f rfl rfl (λ_=>zB call298 (evs1 rfl) (atB _ aB _)) ?_;iterate 2 refine AX ?_
 refine .p rfl rfl (bmX G3 (tm rfl) (caG hka hkb)) ?_;iterate 5 refine AX ?_
 exact⟨rfl,rfl⟩
theorem wMul2(x y:Nat)(hx:x<18446744073709551616)(hy:y<18446744073709551616)(H:Heap):ACall prog 267 [.int .u64 (x:Int),.int .u64 (y:Int)] H (λz H'=>z=u2 (x*y)∧H'=H):=anM x y hx hy H
theorem bzP{a b:Nat}:yA a*yA b<M2:=by
 have h1:=acN a;have h2:=acN b;have h3:yA a*yA b≤18014398509481984*18014398509481984:=eN aA aA;exact bA h3 aE
theorem awJ(a b:Nat)(ha:a<18446744073709551616)(hb:b<18446744073709551616):Fn 233 [.int .u64 (a:Int),.int .u64 (b:Int)] (.int .u64 ((aoB a b:Nat):Int)):=by
 intro H;have hpa:=aaZ a;have hpb:=aaZ b;have hma:=acN a;have hmb:=acN b;refine .of_body func233 rfl ntmps233 results233 rfl ?_;iterate 20 refine AM ?_
 refine .cl rfl call266 (evs2 rfl rfl) (bnP _ _ aB aB _) ?_;iterate 9 refine AX ?_
 refine .cx rfl (λhc20=>?_) (λhc20=>?_)
 ·iterate 9 refine AM ?_
  refine⟨?_,rfl⟩;unfold aoB;rw[aN hc20];rfl
 iterate 6 refine AX ?_
 refine .cx rfl (λhc22=>?_) (λhc22=>?_)
 ·iterate 6 refine AX ?_
  refine .cx rfl (λhc24=>?_) (λhc24=>?_)
  ·iterate 10 refine AM ?_
   refine⟨?_,rfl⟩;have hmn:ayK a b=true:=aU hc24;unfold aoB;rw[aM hc20,aN hc22,aN hmn];rfl
  iterate 11 refine AM ?_
  refine⟨?_,rfl⟩;unfold aoB;rw[aM hc20,aN hc22,aM (by unfold ayK;simpa using hc24)];rfl
 iterate 6 refine AX ?_
 refine .cl rfl C91 (evs1 rfl) (aiL a ha _) ?_;iterate 12 refine AX ?_
 refine .cl rfl C91 (evs1 rfl) (aiL b hb _) ?_;iterate 14 refine AX ?_
 refine .cl rfl call267 (evs2 rfl rfl) (wMul2 _ _ aA aA _) ?_;iterate 3 refine AX ?_
 refine .cl rfl call264 (.cons (tm rfl) (.cons (tm rfl) (.cons (tm rfl) (.cons zT .nil)))) (aoH (ayK a b) (yA a*yA b) bzP _ (by constructor<;>omega) false _) ?_;iterate 5 refine AX ?_
 refine⟨?_,rfl⟩;unfold aoB;rw[aM hc20,aM hc22];rfl
theorem blS(v:Nat)(hv:v<9223372036854775808):Fn 265 [.int .i64 (v:Int)] (.int .u64 (v:Int)):=by
 intro H;refine .of_body func265 rfl ntmps265 results265 rfl ?_;iterate 9 refine AM ?_
 iterate 3 refine AX ?_
 refine .cond_false (tm rfl) (by exact aS aA) ?_;iterate 11 refine AX ?_
 exact⟨rfl,rfl⟩
theorem aoI(v:Nat)(hv:v<9223372036854775808):Fn 232 [.int .i64 (v:Int)] (.int .u64 ((yD false v 0 false:Nat):Int)):=by
 intro H;refine .of_body func232 rfl ntmps232 results232 rfl ?_;iterate 8 refine AM ?_
 iterate 2 refine AX ?_
 refine .cl rfl call265 (evs1 rfl) (blS v hv _) (.p rfl (yU zr220 pl220 (.cons (tm rfl) (.inl rfl) .nil) rfl) ?_);refine .cl rfl call264 (.cons (tm rfl) (.cons (tm rfl) (.cons zJ (.cons zT .nil)))) ((by have h:=λH=>aoH (decide ((v:Int)<0)) v (eG hv aE) 0 aC false H;rw[cdF (eG hv aE)]at h;exact h _)) ?_;iterate 5 refine AX ?_
 refine⟨?_,rfl⟩;rw[show decide ((v:Int)<0)=false from aS aA];rfl
end
end Go.Proofs.YteedncdcbgplfaaGreatDoor
