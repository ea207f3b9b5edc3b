import Derived.Test.YtmmgbnolccpjoaaGreatDoorQ1
import Derived.Test.YtmmgbnolccpjoaaGreatDoorD1
set_option maxHeartbeats 1000000
namespace Go.Proofs.YtmmgbnolccpjoaaGreatDoor
open Go.Proofs.Tryz
open Go Go.RowKit
section
set_option maxRecDepth 100000
theorem zr251:ZR 251 [.int .i64 0,.int .i64 0,.int .i64 0,.int .i64 0]:=ZRi zeroValue251
theorem zr252:ZR 252 [.int .i64 0,.int .i64 0,.int .i64 0,.int .i64 0,.int .i64 0,.int .i64 0,.int .i64 0,.int .i64 0,.int .i64 0,.int .i64 0,.int .i64 0,.int .i64 0,.int .i64 0,.int .i64 0,.int .i64 0,.int .i64 0]:=ZRi zeroValue252
theorem zr291:ZR 291 [.int .i64 0,.int .i64 0,.int .i64 0,.int .i64 0,.int .i64 0]:=ZRi zeroValue291
def ajR(k:Nat):Nat:=if k=0 then 0 else if k≤2 then 1 else if k=3 then 2 else 3
theorem arZ(k:Nat):ajR k<4:=by
 unfold ajR;repeat' split
 all_goals omega
theorem cdG{k:Nat}(h:k≤4):([.int .i64 0,.int .i64 1,.int .i64 1,.int .i64 2,.int .i64 3]:List AV)[((k:Nat):Int).toNat]?=some (.int .i64 ((ajR k:Nat):Int)):=by
 rcases(by omega:k=0∨k=1∨k=2∨k=3∨k=4)with rfl|rfl|rfl|rfl|rfl<;>rfl
def brI(p q:Nat):Int:=(([[6,6,1,1],[6,0,5,1],[1,5,5,1],[1,1,1,1]]:List (List Int)).getD p []).getD q 0
theorem ccP{p q:Nat}(hp:p<4)(hq:q<4):((([.int .i64 6,.int .i64 6,.int .i64 1,.int .i64 1,.int .i64 6,.int .i64 0,.int .i64 5,.int .i64 1,.int .i64 1,.int .i64 5,.int .i64 5,.int .i64 1,.int .i64 1,.int .i64 1,.int .i64 1,.int .i64 1]:List AV).drop (((p:Nat):Int).toNat*4)).drop (((q:Nat):Int).toNat*1))[0]?=some (.int .i64 (brI p q)):=by
 rcases(by omega:p=0∨p=1∨p=2∨p=3)with rfl|rfl|rfl|rfl<;>rcases(by omega:q=0∨q=1∨q=2∨q=3)with rfl|rfl|rfl|rfl<;>rfl
def aeH(a b:Nat):Bool:=decide (((a/2^63:Nat):Int)≠((b/2^63:Nat):Int))
def afD(a b:Nat):Nat:=
 if brI (ajR (zK a)) (ajR (zK b))=1 then 9221120237041090560
 else if brI (ajR (zK a)) (ajR (zK b))=5 then(if aeH a b=true then 18442240474082181120 else 9218868437227405312)
 else zV (aeH a b) (yF a*yF b) (yG a+yG b) false
section
variable{P:Program}{env:Env}{H:Heap}{dst:Option Tmp}{ty:TypeId}{pos:String}{af:Array Edge}{gd:Option (Nat×Bool)}
theorem axX{T:TypeId}{x:Operand}{cs:List AV}{c:AV}(ha:∀w,(isAgg T).run P w= .ok false w)(hx:Ev env x (.iptr cs))(hc:cs[0]?=some c):APure P ⟨dst,.load T x,ty,pos,af,gd⟩ env c:=by
 match cs,hc with
 |d::ds,hc=>
  obtain rfl:d=c:=by simpa using hc
  exact qH ha hx
end
theorem ajM(x:Nat)(hx:x<18446744073709551616):Fn 242 [.int .u64 (x:Int)] (.int .i64 ((ajR (zK x):Nat):Int)):=by
 intro H;have hk:=aaF x;refine .of_body func242 rfl ntmps242 results242 rfl ?_;iterate 7 refine AX ?_
 refine .p rfl (aeF underlying291 Z3 zr291 (.cons zH (.inl rfl) (.cons zH (.inl rfl) (.cons zH (.inl rfl) (.cons zH (.inl rfl) (.cons zH (.inl rfl) .nil))))) rfl) ?_;refine AX ?_;refine .cl rfl C89 (evs1 rfl) (aaA _ aB _) (.p rfl (biZ underlying291 G3 Z3 (tm rfl) (tm rfl) aA aA (cdG hk)) ?_);iterate 5 refine AX ?_
 exact⟨rfl,rfl⟩
theorem brH(a b:Nat)(ha:a<18446744073709551616)(hb:b<18446744073709551616):Fn 192 [.int .u64 (a:Int),.int .u64 (b:Int)] (.int .i64 (brI (ajR (zK a)) (ajR (zK b)))):=by
 intro H;have hka:=arZ (zK a);have hkb:=arZ (zK b);refine .of_body func192 rfl ntmps192 results192 rfl ?_;iterate 7 refine AX ?_
 refine .p rfl (aeF U251 Z3 zr251 (.cons zH (.inl rfl) (.cons zH (.inl rfl) (.cons zH (.inl rfl) (.cons zH (.inl rfl) .nil)))) rfl) (.p rfl (aeF U251 Z3 zr251 (.cons zH (.inl rfl) (.cons zH (.inl rfl) (.cons zH (.inl rfl) (.cons zH (.inl rfl) .nil)))) rfl) (.p rfl (aeF U251 Z3 zr251 (.cons zH (.inl rfl) (.cons zH (.inl rfl) (.cons zH (.inl rfl) (.cons zH (.inl rfl) .nil)))) rfl) (.p rfl (aeF U251 Z3 zr251 (.cons zH (.inl rfl) (.cons zH (.inl rfl) (.cons zH (.inl rfl) (.cons zH (.inl rfl) .nil)))) rfl) (.p rfl (aeF U252 Z251 zr252 (.cons (tm rfl) (.inr ⟨_,rfl⟩) (.cons (tm rfl) (.inr ⟨_,rfl⟩) (.cons (tm rfl) (.inr ⟨_,rfl⟩) (.cons (tm rfl) (.inr ⟨_,rfl⟩) .nil)))) rfl) ?_))));refine .al zr252 (λb5 hb5=>?_);iterate 3 refine AX ?_
 refine .frz (t:=5) rfl (hb5) ?_;refine AX ?_;refine .draw [(0,true),(1,true),(2,true),(3,true),(4,true),(5,true),(6,true),(7,true)] rfl aE ?_;refine AX ?_;refine .f rfl rfl (λ_=>zB C242 (evs1 rfl) (ajM _ aB _)) ?_;refine AX ?_;refine .f rfl rfl (λ_=>zB C242 (evs1 rfl) (ajM _ aB _)) ?_;iterate 2 refine AX ?_
 refine .p rfl rfl (axX G3 (tm rfl) (ccP hka hkb)) ?_;iterate 5 refine AX ?_
 exact⟨rfl,rfl⟩
theorem wMul2(x y:Nat)(hx:x<18446744073709551616)(hy:y<18446744073709551616)(H:Heap):ACall prog 193 [.int .u64 (x:Int),.int .u64 (y:Int)] H (λz H'=>z=u2 (x*y)∧H'=H):=aoT x y hx hy H
theorem ccG{a b:Nat}:yF a*yF b<M2:=by
 have h1:=qD a;have h2:=qD b;have h3:yF a*yF b≤18014398509481984*18014398509481984:=cS aA aA;exact aU h3 aE
theorem aiP(a b:Nat)(ha:a<18446744073709551616)(hb:b<18446744073709551616):Fn 133 [.int .u64 (a:Int),.int .u64 (b:Int)] (.int .u64 ((afD a b:Nat):Int)):=by
 intro H;have hpa:=yM a;have hpb:=yM b;have hma:=qD a;have hmb:=qD b;refine .of_body func133 rfl ntmps133 results133 rfl ?_;iterate 20 refine AM ?_
 refine .cl rfl call192 (evs2 rfl rfl) (brH _ _ aB aB _) ?_;iterate 9 refine AX ?_
 refine .cx rfl (λhc20=>?_) (λhc20=>?_)
 ·iterate 9 refine AM ?_
  refine⟨?_,rfl⟩;unfold afD;rw[aN hc20];rfl
 iterate 6 refine AX ?_
 refine .cx rfl (λhc22=>?_) (λhc22=>?_)
 ·iterate 6 refine AX ?_
  refine .cx rfl (λhc24=>?_) (λhc24=>?_)
  ·iterate 10 refine AM ?_
   refine⟨?_,rfl⟩;have hmn:aeH a b=true:=aY hc24;unfold afD;rw[aL hc20,aN hc22,aN hmn];rfl
  iterate 11 refine AM ?_
  refine⟨?_,rfl⟩;unfold afD;rw[aL hc20,aN hc22,aL (by unfold aeH;simpa using hc24)];rfl
 iterate 6 refine AX ?_
 refine .cl rfl C181 (evs1 rfl) (acM a ha _) ?_;iterate 12 refine AX ?_
 refine .cl rfl C181 (evs1 rfl) (acM b hb _) ?_;iterate 14 refine AX ?_
 refine .cl rfl C193 (evs2 rfl rfl) (wMul2 _ _ aA aA _) ?_;iterate 3 refine AX ?_
 refine .cl rfl C122 (.cons (tm rfl) (.cons (tm rfl) (.cons (tm rfl) (.cons yK .nil)))) (adX (aeH a b) (yF a*yF b) ccG _ (by constructor<;>omega) false _) ?_;iterate 5 refine AX ?_
 refine⟨?_,rfl⟩;unfold afD;rw[aL hc20,aL hc22];rfl
theorem bpQ(v:Nat)(hv:v<9223372036854775808):Fn 123 [.int .i64 (v:Int)] (.int .u64 (v:Int)):=by
 intro H;refine .of_body func123 rfl ntmps123 results123 rfl ?_;iterate 9 refine AM ?_
 iterate 3 refine AX ?_
 refine .cond_false (tm rfl) (by exact bB aA) ?_;iterate 11 refine AX ?_
 exact⟨rfl,rfl⟩
theorem agE(v:Nat)(hv:v<9223372036854775808):Fn 55 [.int .i64 (v:Int)] (.int .u64 ((zV false v 0 false:Nat):Int)):=by
 intro H;refine .of_body func55 rfl ntmps55 results55 rfl ?_;iterate 8 refine AM ?_
 iterate 2 refine AX ?_
 refine .cl rfl call123 (evs1 rfl) (bpQ v hv _) (.p rfl (zX zr149 pl149 (.cons (tm rfl) (.inl rfl) .nil) rfl) ?_);refine .cl rfl C122 (.cons (tm rfl) (.cons (tm rfl) (.cons zH (.cons yK .nil)))) ((by have h:=λH=>adX (decide ((v:Int)<0)) v (cL hv aE) 0 aC false H;rw[amZ (cL hv aE)]at h;exact h _)) ?_;iterate 5 refine AX ?_
 refine⟨?_,rfl⟩;rw[show decide ((v:Int)<0)=false from bB aA];rfl
end
section
open Go Go.RowKit
set_option maxRecDepth 100000
theorem ciD{m a K:Nat}(hm:m<2^a)(h:a+K≤8191):m*2^K<BIG:=by
 obtain⟨Q,hQ,hB⟩:∃K,K=8192∧BIG=2^K:=⟨32*256,rfl,awA _ rfl⟩;rw[hB];refine bM (eD hm (bO aC)) ?_;rw[←bI];exact aW aC aA
theorem cdC(r:Nat):decide ((0:Int)<((zE r).length:Int))=decide (r≠0):=by
 refine aT.2 ⟨λh q=>?_,λh=>?_⟩
 ·subst q;rw[aaX]at h;simp at h
 rw[qR (eI h)];simp only[aX];omega
theorem ccO{ds:List UInt8}(hd:Digs ds)(hl:ds.length≤1100):zY (num ds)≤3669∧num ds<BIG:=by
 have h1:=aiN hd;have h2:=(afU (j:=ds.length) (n:=0) aA aC).2.1;refine⟨?_,cL h1 h2⟩;have h3:=agU (cT h1);have h4:=alS ds.length;omega
theorem ciW{ds:List UInt8}(hd:Digs ds){j:Nat}(h:ds.length+j≤400):num ds*10^j<BIG∧10^j<BIG:=by
 have h1:=aiN hd;refine⟨aU ?_ (afU (j:=ds.length+j) (n:=0) aA aC).2.1,(afU (j:=j) (n:=0) aA aC).2.1⟩;rw[bI];exact bC _ (cT h1)
theorem buO(m:Nat)(e:Int):bfM 0 ((zY (10^(-e).toNat):Int)-(zY m:Int)+66)=((azO m e:Nat):Int):=by
 unfold azO;simp only[bfM];split<;>omega
theorem axG(neg:Bool)(ds:List UInt8)(e:Int)(hr:qE ds e=true)(hne:ds≠[])(hp: -330≤ds.length+e∧ds.length+e≤310):Fn 225 [dA neg ds e] (.int .u64 ((asS (num ds) e:Nat):Int)):=by
 intro H;have hd:=qJ hr;have hrl:=qT hr;have hlp:=bS.2 hne;obtain⟨hmb,hmB⟩:=ccO hd hrl.1;refine .of_body func225 rfl ntmps225 results225 rfl ?_;iterate 8 refine AM ?_
 refine .p rfl (zA U58 rfl Z9 (tm rfl)) ?_;refine AX ?_;refine .cl rfl call267 (evs1 rfl) (blD ds hne hd aA _) ?_;iterate 10 refine AX ?_
 refine .p rfl (zA U58 rfl Z3 (tm rfl)) ?_;iterate 4 refine AX ?_
 refine .cx rfl (λhc21=>?_) (λhc21=>?_)
 ·have hq:=ciW hd (j:=e.toNat) aA;iterate 2 refine AX ?_
  refine .p rfl (zA U58 rfl Z3 (tm rfl)) ?_;refine AX ?_;refine .cl rfl C268 (.cons zH (evs1 rfl)) (pow10Z e.toNat e aA aA _) ?_;iterate 11 refine AX ?_
  refine .cl rfl C269 (evs2 rfl rfl) (mulB _ _ hmB hq.2 hq.1 _) ?_;iterate 9 refine AX ?_
  refine .cl rfl call270 (.cons yK (.cons (tm rfl) (.cons zH (.cons yK .nil)))) (roundB _ hq.1 0 aC false _) ?_;iterate 6 refine AX ?_
  refine⟨?_,rfl⟩;unfold asS;rw[aJ];rfl
 have htB:=(afU (j:=(-e).toNat) (n:=0) aA aC).2.1;have htb:=alS (-e).toNat;have hkd:azO (num ds) e=zY (10^(-e).toNat)+66-zY (num ds):=rfl;have hsB:=ciD (m:=(num ds)) (a:=zY (num ds)) (K:=azO (num ds) e) (ahO _) aA;iterate 4 refine AX ?_
 refine .p rfl (zA U58 rfl Z3 (tm rfl)) ?_;iterate 2 refine AX ?_
 refine .cl rfl C268 (.cons zH (evs1 rfl)) (pow10Z (-e).toNat (-e) aA aA _) ?_;iterate 10 refine AX ?_
 refine .cl rfl C271 (evs1 rfl) (lenB _ htB _) ?_;refine AX ?_;refine .cl rfl C271 (evs1 rfl) (lenB _ hmB _) ?_;iterate 7 refine AX ?_
 rw[buO];iterate 3 refine AX ?_
 refine .cl rfl C272 (evs2 rfl rfl) (shlQ _ (azO (num ds) e) _ rfl hsB aA _) ?_;iterate 10 refine AX ?_
 refine .cl rfl call273 (evs2 rfl rfl) (arH _ _ hsB (acW _) htB _) ?_;iterate 17 refine AX ?_
 refine .cl rfl call270 (.cons yK (evs3 rfl rfl rfl)) (roundB _ (aU (cY _ _) hsB) _ (by constructor<;>omega) _ _) ?_;iterate 5 refine AX ?_
 refine⟨?_,rfl⟩;rw[cdC];unfold asS bdY;rw[aI];rfl
end
end Go.Proofs.YtmmgbnolccpjoaaGreatDoor
