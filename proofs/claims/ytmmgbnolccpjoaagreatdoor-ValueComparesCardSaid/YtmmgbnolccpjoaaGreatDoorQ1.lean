import Derived.Test.YtmmgbnolccpjoaaGreatDoorP2
import Derived.Test.YtmmgbnolccpjoaaGreatDoorN3
namespace Go.Proofs.YtmmgbnolccpjoaaGreatDoor
open Go.Proofs.Tryz
open Go Go.RowKit
variable{c i v:Nat}{more:Bool}{k:Int}
section
set_option maxRecDepth 100000
def axC(v i:Nat):Nat:=v/4294967296^((zE v).length-i)%M2
theorem asP(v:Nat):axC v 0=0:=by
 have h:=aoI (zF v) (aV (zE v).length);rw[fD,zG]at h;unfold axC;rw[gL,←h];rfl
theorem blP(v:Nat):axC v (zE v).length=v%M2:=by
 unfold axC;rw[Nat.sub_self,dI,gC]
theorem buB(h:i<(zE v).length):axC v (i+1)=(axC v i*4294967296+(zE v).getD ((zE v).length-1-i) 0)%M2:=by
 have h1:=aoI (zF v) (show(zE v).length-1-i≤(zE v).length by omega);have h2:=aoI (zF v) (show(zE v).length-i≤(zE v).length by omega);rw[zG]at h1 h2;have h3:(zE v).drop ((zE v).length-1-i)=(zE v).getD ((zE v).length-1-i) 0::(zE v).drop ((zE v).length-i):=by
  rw[cD (show(zE v).length-1-i<(zE v).length by omega),aR,bG (show(zE v).length-1-i<(zE v).length by omega),show(zE v).length-1-i+1=(zE v).length-i by omega];rfl
 rw[h3,val,h2]at h1;unfold axC;rw[show(zE v).length-(i+1)=(zE v).length-1-i by omega,←h1];generalize v/4294967296^((zE v).length-i)=q;generalize(zE v).getD ((zE v).length-1-i) 0=x;unfold M2;omega
theorem bcW(h:i<(zE v).length):putRow (u2 (axC v i*2^32%M2)).cells 1 [.int .u64 (((axC v i*2^32%M2%M1|||(zE v).getD ((zE v).length-1-i) 0:Nat)):Int)]=(u2 (axC v (i+1))).cells:=by
 obtain⟨e1,e2⟩:=chQ (v:=axC v i) (Limbs.getD (zF v) ((zE v).length-1-i));rw[buB h,e2];show putRow [.int .u64 (((axC v i*2^32%M2/M1:Nat)):Int),_] 1 _=_;rw[e1];rfl
theorem bjQ:∀(c v:Nat),(zE v).drop c=zE (v/4294967296^c)
 |0,v=>by rw[cU,dI,gC]
 |c+1,v=>by
  rcases bJ v with h|h
  ·subst h;rw[Nat.zero_div,aaX,List.drop_nil]
  rw[qR h,fI,bjQ c,bY,bQ,bK]
theorem cjH(h:c≤(zE v).length):val ((zE v).take c)=v%4294967296^c:=by
 have h1:=ahB h;have h2:=aoX (zF v) h;rw[zG]at h1
 conv=>rhs;rw[h1]
 rw[dU,bE h2]
theorem baT(c:Nat):4294967296^c=2^(32*c):=by rw[show(4294967296:Nat)=2^32 by decide,←eE]
theorem limbs4(h:(zE v).length≤4):v<M2:=by
 have:=agG (zF v);rw[zG]at this;refine bM this ?_;rw[baT,show M2=2^128 by decide+kernel];exact aW aC aA
theorem bfH(h:(zE v).length=c+4):55≤zY (v/2^(32*c))∧v/2^(32*c)<M2∧(zE (v/2^(32*c))).length=4:=by
 have e:=bjQ c v;rw[baT]at e;have el:(zE (v/2^(32*c))).length=4:=by rw[←e,bD];omega
 refine⟨?_,limbs4 aA,el⟩;have hp:0<v/2^(32*c):=by
  rcases bJ (v/2^(32*c))with h0|h0
  ·rw[h0]at el;simp[aaX]at el
  exact h0
 have:=alM hp;omega
def btU(v b2 b3:Nat)(H:Heap):Nat→Env→Heap→Prop:=λk env H1=>∃i:Nat,i≤(zE v).length∧env=[(0,qL v),(2,.ptr (some ⟨b2,0,none⟩)),(3,.ptr (some ⟨b3,0,none⟩)),(6,.int .i64 ((zE v).length:Int)),(7,.int .i64 (i:Int))]∧H1=(H.set b2 (.box 149 [.int .u64 0,.int .u64 0])).set b3 (.box 149 (u2 (axC v i)).cells)∧k=(zE v).length-i
theorem bhH(v:Nat)(hv:(zE v).length≤1000000):Fn 338 [qL v] (u2 (v%M2)):=by
 intro H;refine .of_body func338 rfl ntmps338 results338 rfl ?_;iterate 2 refine AX ?_
 refine .al zr149 (λb2 hb2=>?_);iterate 4 refine AX ?_
 refine .al zr149 (λb3 hb3=>?_);have hn2_3:=Heap.ne_of (oS _ _ _) hb3;iterate 11 refine AX ?_
 rw[show([.int .u64 0,.int .u64 0]:List AV)=(u2 (axC v 0)).cells by rw[asP];rfl];refine .loopW (btU v b2 b3 H) ((zE v).length) ⟨0,Nat.zero_le _,rfl,by rw[asP];rfl,rfl⟩ sX (hRa _) ?_;rintro _ _ _ ⟨i,hi,rfl,rfl,rfl⟩;iterate 6 refine AX ?_
 refine .cx rfl (λhc8=>?_) (λhc8=>?_)
 ·have hlv:i<(zE v).length:=by omega
  have hgx:=Limbs.getD (zF v) ((zE v).length-1-i);have hlo:axC v i*2^32%M2%M1<18446744073709551616:=agR _;iterate 13 refine AX ?_
  refine .cl rfl C187 (.cons (tm rfl) (.cons zH .nil)) (aiB (axC v i) 32 aC 32 rfl _) ?_;iterate 3 refine AX ?_
  refine .draw [(0,true),(2,true),(3,true),(4,true),(5,true),(6,true),(7,true),(8,true),(9,true),(10,true),(1,false),(11,true),(12,true),(13,false)] rfl aE ?_;refine .p rfl rfl (zD U149 rfl Z22 (tm rfl)) ?_;iterate 6 refine AX ?_
  refine .p rfl rfl (zW ((zE v).length-1-i) U239 Z166 (tm rfl) (tm rfl) aA aA) ?_;iterate 2 refine AX ?_
  refine .s rfl rfl (yC G22 (tm rfl) (oS _ _ _) rfl) ?_;rintro _ _ ⟨rfl,hH⟩;obtain rfl:=hH.symm;refine AX ?_;refine .p rfl rfl (zD U149 rfl Z22 (tm rfl)) (.s0 rfl (zN Z22 (tm rfl) (tm rfl) rfl rfl (.inl rfl) (oS _ _ _) (lB rfl)) ?_);rintro _ _ ⟨rfl,hH⟩;obtain rfl:=hH.symm;try first|rw[sS]|rw[sU aB]
  iterate 8 refine AX ?_
  refine Round.mk ⟨i+1,by omega,rfl,rfl,rfl⟩ (zI rfl (zI rfl (zI rfl (zI rfl (zM rfl (by congr 1) yJ))))) (by rw[←bcW hlv];exact hRa _) aA
 obtain rfl:i=(zE v).length:=by omega
 rw[blP];iterate 11 refine AX ?_
 refine .dropb (fS hb3 _) ?_;refine .frz (t:=2) rfl (hb2) ?_;iterate 2 refine AX ?_
 exact⟨rfl,rfl⟩
def ajU(v:Nat):Nat:=(zE v).length-4
def cjK(v:Nat)(more:Bool):Bool:=more||decide (v%2^(32*ajU v)≠0)
theorem bvI{neg:Bool}{e:Int}(he: -10000≤e∧e≤2000):zV neg v e more=zV neg (v/2^(32*ajU v)) (e+32*(ajU v:Int)) (cjK v more):=by
 rcases bJ (ajU v)with h|h
 ·unfold cjK;rw[h];simp[Nat.mod_one]
 have hl:(zE v).length=ajU v+4:=by unfold ajU at *;omega
 have:=aeZ (neg:=neg) (n:=v) (j:=32*ajU v) (more:=more) (bfH hl).1 he.1 he.2;rw[this];unfold cjK;congr 1<;>omega
theorem cnG(v:Nat):v/2^(32*ajU v)<M2∧(zE (v/2^(32*ajU v))).length≤4:=by
 rcases bJ (ajU v)with h|h
 ·rw[h,dQ,dI,gC];have:(zE v).length≤4:=by unfold ajU at h;omega
  exact⟨limbs4 this,this⟩
 have hl:(zE v).length=ajU v+4:=by unfold ajU at *;omega
 have:=bfH hl;exact⟨this.2.1,by omega⟩
theorem bfC{c x:Nat}(hx:x=(zE v).getD i 0):(more||decide (val ((zE v).take i)≠0)||decide (((0:Nat):Int)<(x:Int)))=(more||decide (val ((zE v).take (i+1))≠0)):=by
 rw[yW,←hx,Bool.or_assoc];congr 1;rw[←Bool.decide_or];refine aT.2 ?_;have hp:0<4294967296^i:=bO aC;generalize 4294967296^i=q at *;generalize val ((zE v).take i)=y;rcases bJ x with h|h
 ·subst h;simp
 have h2:0<q*x:=fP hp h;constructor
 ·intro _;omega
 intro _;exact .inr aA
theorem bsA{l:List Nat}(h:i<c):(l.take c).getD i 0=l.getD i 0:=by
 rw[aR,eU,aN h,aR]
theorem cjJ:(more||decide (val ((zE v).take (ajU v))≠0))=cjK v more:=by
 unfold cjK;rw[cjH (show ajU v≤(zE v).length by unfold ajU;omega),baT]
def biJ(neg more:Bool)(e:Int)(v:Nat)(H:Heap):Nat→Env→Heap→Prop:=λk env H1=>∃i:Nat,i≤ajU v∧env=[(0,.bool neg),(1,qL v),(2,.int .i64 e),(3,.bool (more||decide (val ((zE v).take i)≠0))),(8,.int .u64 ((0:Nat):Int)),(9,.int .i64 (((zE v).length:Int)-4)),(23,.slice 1 (U .u32 ((zE v).take (ajU v))) .shared),(24,.int .i64 (((zE v).take (ajU v)).length:Int)),(25,.int .i64 (i:Int))]∧H=H1∧k=ajU v-i
def bvJ(neg more:Bool)(e:Int)(v b:Nat)(H:Heap):Nat→Env→Heap→Prop:=λk env H1=>∃i:Nat,i≤(zE v).length∧env=[(0,.bool neg),(1,qL v),(2,.int .i64 e),(3,.bool more),(12,.ptr (some ⟨b,0,none⟩)),(45,.int .i64 ((zE v).length:Int)),(46,.int .i64 (i:Int))]∧H1=H.set b (.box 149 (u2 (axC v i)).cells)∧k=(zE v).length-i
theorem avP(neg:Bool)(xs:List Nat)(tl:Tail)(hx:Limbs xs)(hl:xs.length≤1000)(e:Int)(he: -10000≤e∧e≤2000)(more:Bool):Fn 270 [.bool neg,.slice 1 (U .u32 xs) tl,.int .i64 e,.bool more] (.int .u64 ((zV neg (val xs) e more:Nat):Int)):=by
 intro H;have hr:=bvI (neg:=neg) (v:=val xs) (e:=e) (more:=more) he;have hcl:=cnG (val xs);have hvl:(zE (val xs)).length≤xs.length:=by rw[←abK hx];exact aaU xs
 have hcd:ajU (val xs)=(zE (val xs)).length-4:=rfl;have hdr:=bjQ (ajU (val xs)) (val xs);rw[baT]at hdr;have hla:=cjJ (v:=val xs) (more:=more);have hT:=aqA xs tl hx aA;generalize val xs=v0 at *;refine .of_body func270 rfl ntmps270 results270 rfl ?_;iterate 2 refine AX ?_
 refine .p rfl (zT (zR 0)) ?_;iterate 5 refine AX ?_
 refine .cl rfl C278 (evs1 rfl) (hT _) ?_;iterate 3 refine AX ?_
 refine .seqToL [(1,qL (v0/2^(32*ajU v0))),(2,.int .i64 (e+32*(ajU v0:Int))),(3,.bool (cjK v0 more))] [0,8] ?_ ?_
 ·iterate 14 refine AX ?_
  refine .cx rfl (λhc20=>?_) (λhc20=>?_)
  ·iterate 5 refine AX ?_
   refine .p rfl (aeD (ajU v0) U239 Z166 (tm rfl) (tm rfl) aA aA) ?_;iterate 5 refine AX ?_
   refine .loopW (biJ neg more e v0 H) (ajU v0) ⟨0,Nat.zero_le _,rfl,rfl,rfl⟩ (zI rfl (zI rfl (zI rfl (zM rfl (by simp[val]) sX)))) (hRa _) ?_;rintro _ _ _ ⟨i,hi,rfl,rfl,rfl⟩;have htl:((zE v0).take (ajU v0)).length=ajU v0:=by rw[aS];omega
   have hgq:((zE v0).take (ajU v0)).getD i 0<18446744073709551616:=cL (Limbs.getD ((zF v0).take _) i) aC;iterate 6 refine AX ?_
   refine .cx rfl (λhc26=>?_) (λhc26=>?_)
   ·have hgt:=bsA (l:=zE v0) (c:=ajU v0) (i:=i) aA;iterate 6 refine AX ?_
    refine .p rfl (zW (i) U239 Z166 (tm rfl) (tm rfl) aA aA) ?_;iterate 7 refine AX ?_
    refine zC (t:=30) rfl (λhg30=>?_) (λhg30=>?_)
    ·have hh30:=hg30;try simp only[ne_eq]at hh30
     iterate 12 refine AX ?_
     refine Round.mk ⟨i+1,by omega,rfl,rfl,rfl⟩ (zI rfl (zI rfl (zI rfl (zM rfl (by rw[←bfC (c:=0) hgt,hg30];rfl) sX)))) (hRa _) aA
    have hh30:=hg30;try simp only[ne_eq]at hh30
    refine AX ?_;refine .gp rfl rfl rfl aB (afS (tm rfl) (zR 0)) ?_;iterate 10 refine AX ?_
    refine Round.mk ⟨i+1,by omega,rfl,rfl,rfl⟩ (zI rfl (zI rfl (zI rfl (zM rfl (by rw[←bfC (c:=0) hgt,hg30];rfl) sX)))) (hRa _) aA
   obtain rfl:i=ajU v0:=by omega
   iterate 12 refine AX ?_
   refine .cond_true (tm rfl) (by exact aY aA) ?_;iterate 11 refine AX ?_
   refine .p rfl (anP (ajU v0) U239 Z166 (tm rfl) (tm rfl) aA aA) ?_;iterate 2 refine AX ?_
   exact⟨rfl,(zM rfl (by(rw[hdr];rfl)) (zM rfl (by(congr 1;omega)) (zM rfl (by(rw[←hla];done)) sX))),rfl⟩
  have hc0:ajU v0=0:=by omega
  refine AX ?_;exact⟨rfl,(zM rfl (by(rw[hc0,dQ,dI,gC];done)) (zM rfl (by(congr 1;omega)) (zM rfl (by(rw[←hla,hc0];simp[val])) sX))),rfl⟩
 refine .sub [(1,_),(2,_),(3,_),(0,_),(8,_)] sX ?_;have he2: -10000≤e+32*(ajU v0:Int)∧e+32*(ajU v0:Int)≤100000:=by omega
 rw[hr];generalize e+32*(ajU v0:Int)=e2 at he2 ⊢;generalize cjK v0 more=more2;obtain⟨hv,hv4⟩:=hcl;clear hla hdr hr;generalize v0/2^(32*ajU v0)=v at hv hv4 ⊢;iterate 2 refine AX ?_
 refine .al zr149 (λb12 hb12=>?_);iterate 11 refine AX ?_
 rw[show([.int .u64 0,.int .u64 0]:List AV)=(u2 (axC v 0)).cells by rw[asP];rfl];refine .loopW (bvJ neg more2 e2 v b12 H) ((zE v).length) ⟨0,Nat.zero_le _,rfl,rfl,rfl⟩ sX (hRa _) ?_;rintro _ _ _ ⟨i,hi,rfl,rfl,rfl⟩;iterate 6 refine AX ?_
 refine .cx rfl (λhc47=>?_) (λhc47=>?_)
 ·have hlv:i<(zE v).length:=by omega
  have hgx:=Limbs.getD (zF v) ((zE v).length-1-i);have hlo:axC v i*2^32%M2%M1<18446744073709551616:=agR _;iterate 13 refine AX ?_
  refine .cl rfl C187 (.cons (tm rfl) (.cons zH .nil)) (aiB (axC v i) 32 aC 32 rfl _) ?_;iterate 3 refine AX ?_
  refine .draw [(0,true),(2,true),(3,true),(4,true),(5,true),(6,true),(7,true),(8,true),(9,true),(10,true),(1,false),(11,true),(12,true),(13,false)] rfl aE ?_;refine .p rfl rfl (zD U149 rfl Z22 (tm rfl)) ?_;iterate 6 refine AX ?_
  refine .p rfl rfl (zW ((zE v).length-1-i) U239 Z166 (tm rfl) (tm rfl) aA aA) ?_;iterate 2 refine AX ?_
  refine .s rfl rfl (yC G22 (tm rfl) (oS _ _ _) rfl) ?_;rintro _ _ ⟨rfl,hH⟩;obtain rfl:=hH.symm;refine AX ?_;refine .p rfl rfl (zD U149 rfl Z22 (tm rfl)) (.s0 rfl (zN Z22 (tm rfl) (tm rfl) rfl rfl (.inl rfl) (oS _ _ _) (lB rfl)) ?_);rintro _ _ ⟨rfl,hH⟩;obtain rfl:=hH.symm;try first|rw[sS]|rw[sU aB]
  iterate 8 refine AX ?_
  refine Round.mk ⟨i+1,by omega,rfl,rfl,rfl⟩ sX (by rw[←bcW hlv];exact hRa _) aA
 obtain rfl:i=(zE v).length:=by omega
 rw[blP,bE hv];iterate 11 refine AX ?_
 refine .cl rfl C122 (.cons (tm rfl) (evs3 rfl rfl rfl)) (adX neg v hv e2 (by constructor<;>omega) more2 _) ?_;iterate 3 refine AX ?_
 refine .dropb (hb12) ?_;iterate 2 refine AX ?_
 refine⟨?_,rfl⟩;rfl
end
section
open Go Go.RowKit
set_option maxRecDepth 100000
theorem zr184:ZR 184 [.int .u64 0,.int .u64 0,.int .i64 0,.bool false]:=ZRi zeroValue184
theorem pl184:PL 184 [(0,2),(2,1),(3,1)]:=PLi U184
def six(w:Nat):List Nat:=[w%M1%2^IntKind.u32.bits,w%M1/2^32%2^IntKind.u32.bits,w/M1%M1%2^IntKind.u32.bits,w/M1%M1/2^32%2^IntKind.u32.bits,w/M2%2^IntKind.u32.bits,w/M2/2^32%2^IntKind.u32.bits]
theorem chX{w:Nat}(h:w<M3):val (six w)=w:=by
 have h3:=bnV h;unfold six val;simp only[val,IntKind.bits];have e1:=cH w M1;have e2:=cH (w/M1) M1;rw[boJ]at e2;have ha:=agR w;generalize w%M1=a at *;generalize hb:w/M1=b at *;generalize w/M2=c at *;have hbm:b%M1<M1:=agR b;generalize b%M1=d at *;unfold M1 at *;omega
theorem buR(w:Nat):Limbs (six w):=by
 have k:∀x:Nat,x%2^IntKind.u32.bits<4294967296:=λx=>bU _ aC;exact Limbs.mk (k _) (Limbs.mk (k _) (Limbs.mk (k _) (Limbs.mk (k _) (Limbs.mk (k _) (Limbs.mk (k _) Limbs.nil)))))
theorem round6(w:Nat)(h:w<M3)(e:Int)(he: -10000≤e∧e≤2000):Fn 270 [.bool false,.slice 1 (U .u32 (six w)) .full,.int .i64 e,.bool false] (.int .u64 ((zV false w e false:Nat):Int)):=by
 intro H;have q:=avP false (six w) .full (buR w) (by show 6≤1000;decide) e he false H;rw[chX h]at q;exact q
theorem roundB(n:Nat)(h:n<BIG)(e:Int)(he: -10000≤e∧e≤2000)(more:Bool):Fn 270 [.bool false,qL n,.int .i64 e,.bool more] (.int .u64 ((zV false n e more:Nat):Int)):=by
 intro H;have q:=avP false (zE n) .shared (zF n) (by have:=yI h;omega) e he more H;rw[zG]at q;exact q
theorem ayJ(w:Nat)(hw:w<M3)(e:Int)(he: -10000≤e∧e≤2000)(H:Heap):ACall prog 266 [u3 w,.int .i64 e] H (λy H'=>y= .int .u64 ((zV false w e false:Nat):Int)∧H'=H):=by
 have hh:=bnV hw;have hm:=agR (w/M1);have hl:=agR w;have q1:w%M1<18446744073709551616:=hl;have q2:w/M1%M1<18446744073709551616:=hm;have q3:w/M2<18446744073709551616:=hh;refine ACall.of_body func266 rfl ntmps266 results266 rfl ?_;refine .seq (.region (.e rfl (aeC (tm rfl) (.inr ⟨_,rfl⟩)) (.p rfl (zT (zR 0)) (.nil ?_))));refine Next.go ?_;refine .seq (.region (.p rfl (zA U247 rfl Z22 (tm rfl)) (.p rfl (qH G22 (tm rfl)) (.p rfl (afZ U22 U166 rfl (tm rfl)) (.p rfl (zA U247 rfl Z22 (tm rfl)) (.p rfl (qH G22 (tm rfl)) (.p rfl (aaC (tm rfl) (zR 32) aB) (.p rfl (afZ U22 U166 rfl (tm rfl)) ?_))))))));refine .p rfl (zA U247 rfl Z22 (tm rfl)) (.p rfl (qH G22 (tm rfl)) (.p rfl (afZ U22 U166 rfl (tm rfl)) (.p rfl (zA U247 rfl Z22 (tm rfl)) (.p rfl (qH G22 (tm rfl)) (.p rfl (aaC (tm rfl) (zR 32) aB) (.p rfl (afZ U22 U166 rfl (tm rfl)) (.p rfl (zA U247 rfl Z22 (tm rfl)) (.p rfl (qH G22 (tm rfl)) ?_))))))));refine .p rfl (afZ U22 U166 rfl (tm rfl)) (.p rfl (zA U247 rfl Z22 (tm rfl)) ?_);refine AX ?_;refine .p rfl (aaC (tm rfl) (zR 32) aB) ?_;refine AX ?_;refine .e rfl (azL U239 Z166 V166 rfl rfl rfl (.cons (tm rfl) (.inl rfl) (.cons (tm rfl) (.inl rfl) (.cons (tm rfl) (.inl rfl) (.cons (tm rfl) (.inl rfl) (.cons (tm rfl) (.inl rfl) (.cons (tm rfl) (.inl rfl) .nil)))))) (abT ⟨rfl,rfl⟩ (abT ⟨rfl,rfl⟩ (abT ⟨rfl,rfl⟩ (abT ⟨rfl,rfl⟩ (abT ⟨rfl,rfl⟩ (abT ⟨rfl,rfl⟩ bvF))))))) ?_;iterate 7 refine AX ?_
 refine .cl rfl call270 (.cons yK (.cons (tm rfl) (.cons (tm rfl) (.cons yK .nil)))) (round6 w hw e he _) ?_;iterate 5 refine AX ?_
 exact⟨rfl,rfl⟩
theorem afU{j n:Nat}(hj:j≤1500)(hn:n≤3000):10^j*2^n<BIG∧10^j<BIG∧2^n<BIG:=by
 obtain⟨K,hK,hB⟩:∃K,K=8192∧BIG=2^K:=⟨32*256,rfl,awA _ rfl⟩;have h10:10^j≤2^(10*j/3+1):=by
  have h3:∀q r:Nat,r<3→10^(3*q+r)≤2^(10*q+(10*r/3+1)):=by
   intro q r hr;rw[bI,bI 2,eE,eE 2];refine cS (Nat.pow_le_pow_left aC q) ?_;rcases(by omega:r=0∨r=1∨r=2)with rfl|rfl|rfl<;>decide
  have:=h3 (j/3) (j%3) (bU _ aC);rw[show 3*(j/3)+j%3=j by omega]at this;refine aZ this (aW aC aA)
 have h4:10^j*2^n≤2^(10*j/3+1+n):=by rw[bI];exact bC _ h10
 rw[hB];refine⟨aU h4 (eC aC ?_),aU h10 (eC aC ?_),eC aC ?_⟩<;>(clear h4 h10 hB;omega)
theorem alS(j:Nat):zY (10^j)≤10*j/3+2:=by
 rw[yQ];have h3:∀q r:Nat,r<3→10^(3*q+r)<2^(10*q+(10*r/3+2)):=by
  intro q r hr;rw[bI,bI 2,eE,eE 2];refine Nat.mul_lt_mul_of_le_of_lt (Nat.pow_le_pow_left aC q) ?_ (bO aC);rcases(by omega:r=0∨r=1∨r=2)with rfl|rfl|rfl<;>decide
 have:=h3 (j/3) (j%3) (bU _ aC);rw[show 3*(j/3)+j%3=j by omega]at this;exact bM this (aW aC aA)
theorem bnD:∀m:Nat,¬5∣2^m
 |0=>by decide
 |m+1=>λh=>by
  rw[bQ]at h;have:=bnD m;omega
def apL(k:Int):AV:=.agg [.int .u64 ((ajQ k/M1:Nat):Int),.int .u64 ((ajQ k%M1:Nat):Int),.int .i64 (awM k),.bool (bgY k)]
theorem pow10Z(j:Nat)(q:Int)(hq:q=(j:Int))(hj:j≤1500):Fn 268 [.int .i64 10,.int .i64 q] (.tuple [qL (10^j),.int .i64 0]):=by
 intro H;subst hq;exact avQ 10 j aC aC aA (afU (n:=0) hj aC).2.1 H
theorem oneB(s:Nat)(q:Int)(hq:q=(s:Int))(hs:s≤3000):Fn 272 [.slice 1 [.int .u32 1] .full,.int .i64 q] (.tuple [qL (2^s),.int .i64 0]):=by
 intro H;subst hq;have h:=bgQ [1] .full (Limbs.mk aC Limbs.nil) aC s (by rw[show val [1]=1 from rfl,cK];exact(afU (j:=0) aC hs).2.2) aA H;rw[show val [1]=1 from rfl,cK]at h;exact h
theorem bmU(h:k<0):ajQ k=2^(zY (10^(-k).toNat)+127)/10^(-k).toNat∧awM k= -((zY (10^(-k).toNat):Int)+127)∧bgY k=false:=by
 refine⟨?_,?_,?_⟩
 ·unfold ajQ;rw[aN h]
 ·unfold awM;rw[aN h];omega
 unfold bgY;rw[aN h]
theorem ayA(h:¬k<0)(hb:zY (10^k.toNat)≤128):ajQ k=10^k.toNat*2^(128-zY (10^k.toNat))∧awM k=(zY (10^k.toNat):Int)-128∧bgY k=true:=by
 refine⟨?_,?_,?_⟩
 ·unfold ajQ;rw[aL h,aN hb]
 ·unfold awM;rw[aL h]
 unfold bgY;rw[aL h];exact aY (.inl hb)
theorem bmV(h:¬k<0)(hb:¬zY (10^k.toNat)≤128):ajQ k=10^k.toNat/2^(zY (10^k.toNat)-128)∧awM k=(zY (10^k.toNat):Int)-128∧bgY k=decide (10^k.toNat%2^(zY (10^k.toNat)-128)=0):=by
 refine⟨?_,?_,?_⟩
 ·unfold ajQ;rw[aL h,aL hb]
 ·unfold awM;rw[aL h]
 unfold bgY;rw[aL h];exact aT.2 ⟨λq=>q.resolve_left hb,.inr⟩
theorem baU(k:Int):ajQ k<M2:=by
 have e128:M2=2^128:=by decide+kernel
 rw[e128];rcases Int.lt_or_le k 0 with h|h
 ·rw[(bmU h).1];have ht:=acW (-k).toNat;have hlo:=avN ht;have hb:=afE ht;rw[bR ht];rcases Nat.lt_or_eq_of_le hlo with hl|hl
  ·have e:2^(zY (10^(-k).toNat)+127)=2^128*2^(zY (10^(-k).toNat)-1):=by rw[←bI];congr 1;omega
   rw[e];exact fW hl (bO aC)
  
  exfalso;have hj:0<(-k).toNat:=by omega
  have h5:10^(-k).toNat=2^(-k).toNat*5^(-k).toNat:=by rw[←Nat.mul_pow]
  have hodd:5∣2^(zY (10^(-k).toNat)-1):=by
   rw[hl,h5];exact Nat.dvd_trans (Nat.dvd_trans ⟨5^((-k).toNat-1),by rw[←Nat.pow_succ',show((-k).toNat-1).succ=(-k).toNat by omega]⟩ (Nat.dvd_mul_left _ _)) (Nat.dvd_refl _)
  exact bnD _ hodd
 rcases cG 128 (zY (10^k.toNat))with hl|hl
 ·rw[(bmV aA aA).1,bR (bO aC),←bI];refine bM (ahO _) (aW aC aA)
 rw[(ayA aA hl).1];refine bM (eD (ahO _) (bO aC)) ?_;rw[←bI];exact aW aC aA
theorem shrZ(a s:Nat)(q:Int)(hq:q=(s:Int))(h:a<BIG)(hs:s<1000000000):Fn 276 [qL a,.int .i64 q] (.tuple [qL (a/2^s),.bool (decide (a%2^s≠0)),.int .i64 0]):=by
 intro H;subst hq;exact shrB a s h hs H
theorem shlQ(a s:Nat)(q:Int)(hq:q=(s:Int))(h:a*2^s<BIG)(hs:s<1000000000):Fn 272 [qL a,.int .i64 q] (.tuple [qL (a*2^s),.int .i64 0]):=by
 intro H;subst hq;exact shlB a s h hs H
theorem ccE(k:Int):ajQ k<BIG:=cL (baU k) (by
  obtain⟨K,hK,hB⟩:∃K,K=8192∧BIG=2^K:=⟨32*256,rfl,awA _ rfl⟩;rw[hB,show M2=2^128 by decide+kernel];exact eC aC aA)
theorem valueP(k:Int):Fn 338 [qL (ajQ k)] (u2 (ajQ k)):=by
 intro H;have h:=bhH (ajQ k) (by have:=yI (ccE k);omega) H;rw[bE (baU k)]at h;exact h
theorem brL(k:Int)(hk: -400≤k∧k≤400):Fn 308 [.int .i64 k] (apL k):=by
 intro H;have hbl:=alS k.natAbs;have hp0:=acW k.natAbs;have htB:=(afU (j:=k.natAbs) (n:=0) aA aC).2.1;refine .of_body func308 rfl ntmps308 results308 rfl ?_;iterate 2 refine AX ?_
 refine .al zr184 (λb2 hb2=>?_);iterate 8 refine AX ?_
 refine .cl rfl C268 (.cons zH (evs1 rfl)) (pow10Z k.natAbs _ (by simp only[bfM];split<;>omega) aA _) ?_;iterate 14 refine AX ?_
 refine .cx rfl (λhc23=>?_) (λhc23=>?_)
 ·have hP:=bmU (k:=k) aA;rw[show(-k).toNat=k.natAbs by omega]at hP;iterate 3 refine AX ?_
  refine .cl rfl C271 (evs1 rfl) (lenB _ htB _) ?_;iterate 6 refine AX ?_
  refine .e rfl (qM U239 Z166 V166 rfl (zR 1) (.inl rfl) ⟨rfl,rfl⟩) ?_;refine AX ?_;refine .cl rfl C272 (evs2 rfl rfl) (oneB (zY (10^k.natAbs)+127) _ aA aA _) ?_;iterate 11 refine AX ?_
  refine .cl rfl call273 (evs2 rfl rfl) (arH _ _ (afU (j:=0) aC aA).2.2 hp0 htB _) ?_;iterate 10 refine AX ?_
  rw[←hP.1];iterate 2 refine AX ?_
  refine .cl rfl call338 (evs1 rfl) (valueP k _) ?_;iterate 2 refine AX ?_
  refine .p rfl (zX zr184 pl184 (.cons (tm rfl) (.inr ⟨_,rfl⟩) (.cons (tm rfl) (.inl rfl) (.cons yK (.inl rfl) .nil))) rfl) ?_;iterate 3 refine AX ?_
  refine .frz (t:=2) rfl (hb2) ?_;iterate 3 refine AX ?_
  refine⟨?_,rfl⟩;unfold apL;rw[hP.2.1,hP.2.2];rfl
 have hkt:k.toNat=k.natAbs:=by omega
 iterate 5 refine AX ?_
 refine .cl rfl C271 (evs1 rfl) (lenB _ htB _) ?_;iterate 11 refine AX ?_
 refine .cx rfl (λhc49=>?_) (λhc49=>?_)
 ·have hP:=ayA (k:=k) aA (by rw[hkt];omega);rw[hkt]at hP;iterate 5 refine AX ?_
  refine .cl rfl C272 (evs2 rfl rfl) (shlQ _ (128-zY (10^k.natAbs)) _ aA (afU aA aA).1 aA _) ?_;iterate 7 refine AX ?_
  rw[←hP.1];iterate 2 refine AX ?_
  refine .cl rfl call338 (evs1 rfl) (valueP k _) ?_;refine AX ?_;refine .p rfl (zX zr184 pl184 (.cons (tm rfl) (.inr ⟨_,rfl⟩) (.cons (tm rfl) (.inl rfl) (.cons yK (.inl rfl) .nil))) rfl) ?_;iterate 3 refine AX ?_
  refine .frz (t:=2) rfl (hb2) ?_;iterate 3 refine AX ?_
  refine⟨?_,rfl⟩;unfold apL;rw[hP.2.1,hP.2.2];rfl
 have hP:=bmV (k:=k) aA (by rw[hkt];omega);rw[hkt]at hP;iterate 6 refine AX ?_
 refine .cl rfl call276 (evs2 rfl rfl) (shrZ _ (zY (10^k.natAbs)-128) _ aA htB aA _) ?_;iterate 10 refine AX ?_
 rw[←hP.1];iterate 2 refine AX ?_
 refine .cl rfl call338 (evs1 rfl) (valueP k _) ?_;iterate 3 refine AX ?_
 refine .p rfl (zX zr184 pl184 (.cons (tm rfl) (.inr ⟨_,rfl⟩) (.cons (tm rfl) (.inl rfl) (.cons (tm rfl) (.inl rfl) .nil))) rfl) ?_;iterate 3 refine AX ?_
 refine .frz (t:=2) rfl (hb2) ?_;iterate 2 refine AX ?_
 refine⟨?_,rfl⟩;unfold apL;rw[hP.2.1,hP.2.2];have e:(!decide (10^k.natAbs%2^(zY (10^k.natAbs)-128)≠0))=decide (10^k.natAbs%2^(zY (10^k.natAbs)-128)=0):=by simp
 rw[←e];rfl
end
end Go.Proofs.YtmmgbnolccpjoaaGreatDoor
