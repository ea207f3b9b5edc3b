import Derived.Test.YteedncdcbgplfaaGreatDoorP2
set_option maxHeartbeats 1000000
namespace Go.Proofs.YteedncdcbgplfaaGreatDoor
open Go.Proofs.Tryz
open Go Go.RowKit
variable{c i m v:Nat}{more:Bool}
section
set_option maxRecDepth 100000
def dM(v:Nat)(k:Int):Nat:=if k≤0 then v*2^(-k).toNat else v/2^k.toNat
def dH(v:Nat)(k:Int):Bool:=decide (0<k∧v/2^(k.toNat-1)%2=1)
def dRe(v:Nat)(k:Int):Bool:=decide (0<k∧v%2^(k.toNat-1)≠0)
theorem clD{P Q:Prop}[Decidable P][Decidable Q](h:P↔Q)(a b:Nat):(if P then a else b)=if Q then a else b:=by
 by_cases hp:P
 ·rw[aN hp,aN (h.1 hp)]
 rw[aM hp,aM (λq=>hp (h.2 q))]
theorem ckX(v:Nat)(e:Int)(more:Bool):
  abX v e more=if(dH v (yC v e-e)&&(dRe v (yC v e-e)||more||decide (((dM v (yC v e-e)&&&1:Nat):Int)=((1:Nat):Int))))=true then dM v (yC v e-e)+1 else dM v (yC v e-e):=by
 have e1:∀x:Nat,(decide (((x&&&1:Nat):Int)=((1:Nat):Int)))=decide (x%2=1):=λx=>by
  refine aQ.2 ?_;rw[show(1:Nat)=2^1-1 by decide,dS];omega
 rw[e1];by_cases h:yC v e≤e
 ·have hd:dM v (yC v e-e)=abX v e more:=by
   rw[asD h];unfold dM;rw[aK];congr 2;omega
  have hh:dH v (yC v e-e)=false:=by unfold dH;exact aS aA
  rw[hh,Bool.false_and,aM aC,hd]
 have hd:dM v (yC v e-e)=v/2^(yC v e-e).toNat:=by unfold dM;rw[aJ]
 have hp:0<yC v e-e:=by omega
 rw[buG aA,hd];have hH:dH v (yC v e-e)=decide (v/2^((yC v e-e).toNat-1)%2=1):=by unfold dH;exact aQ.2 ⟨λq=>q.2,λq=>⟨hp,q⟩⟩
 have hR:dRe v (yC v e-e)=decide (v%2^((yC v e-e).toNat-1)≠0):=by unfold dRe;exact aQ.2 ⟨λq=>q.2,λq=>⟨hp,q⟩⟩
 rw[hH,hR];refine clD ?_ _ _;simp only[bN,dB,aT,or_assoc]
theorem baO(neg:Bool)(n:Nat)(e:Int)(more:Bool)(hn:yN n≤100000)(he: -1000000000000000≤e∧e≤1000000000000000)(f:FuncId)(cap:List AV)(H:Heap)(hent:∀args w,(callFunc f args).run prog w= .ok (.enter f args) w)(hf:boP n e=false→ACall prog f ([.int .i64 (yC n e-e)]++cap) H (λy H'=>y= .tuple [.int .u64 ((dM n (yC n e-e):Nat):Int),.bool (dH n (yC n e-e)),.bool (dRe n (yC n e-e))]∧H'=H)):ACall prog 293 [.bool neg,.int .i64 (yN n:Int),.int .i64 e,.bool more,.func f cap] H (λy H'=>y= .int .u64 ((yD neg n e more:Nat):Int)∧H'=H):=by
 have hmd:=ckX n e more;have hml:=ajA n e more;have hdm:dM n (yC n e-e)≤9007199254740992:=by rw[hmd]at hml;split at hml<;>omega
 have hul:=apM n e;have hur:yC n e≤1000000000000000+100000:=by unfold yC;split<;>omega
 refine .of_body func293 rfl ntmps293 results293 rfl ?_;iterate 11 refine AM ?_
 refine .cl rfl call316 (evs3 rfl rfl rfl) (bvU neg n e hn he _) ?_;iterate 12 refine AX ?_
 refine .cx rfl (λhc24=>?_) (λhc24=>?_)
 ·have hfar:boP n e=true:=hc24;iterate 9 refine AX ?_
  refine⟨?_,rfl⟩;rw[cbS hfar];rfl
 have hfar:boP n e=false:=hc24;obtain⟨hf1,hf2,hf3,hf4⟩:=bcR (neg:=neg) (more:=more) hfar;have hup:yC n e≤1000000:=by unfold yC;split<;>omega
 iterate 6 refine AX ?_
 refine .cl rfl call317 (evs2 rfl rfl) (blJ n e hn he _) ?_;iterate 9 refine AX ?_
 refine .e rfl (ahA hent (tm rfl) (evs1 rfl) (hf hfar)) ?_;iterate 9 refine AX ?_
 refine .seqToL [(14,.int .u64 ((abX n e more:Nat):Int))] [0,10,13] ?_ ?_
 ·refine .seqTo 49 (.bool ((dH n (yC n e-e)&&(dRe n (yC n e-e)||more||decide (((dM n (yC n e-e)&&&1:Nat):Int)=((1:Nat):Int)))))) [0,10,13,14] ?_ ?_
  ·iterate 3 refine AX ?_
   refine zD (t:=39) rfl (λhg39=>?_) (λhg39=>?_)
   ·iterate 2 refine AX ?_
    refine zD (t:=41) rfl (λhg41=>?_) (λhg41=>?_)
    ·iterate 9 refine AX ?_
     exact⟨rfl,zS rfl (by(rw[show dH n (yC n e-e)=_ from hg39,show dRe n (yC n e-e)=_ from hg41];rfl)) sX,rfl⟩
    iterate 3 refine AX ?_
    refine zD (t:=44) rfl (λhg44=>?_) (λhg44=>?_)
    ·iterate 6 refine AX ?_
     exact⟨rfl,zS rfl (by(rw[show dH n (yC n e-e)=_ from hg39,show dRe n (yC n e-e)=_ from hg41,show more=_ from hg44];rfl)) sX,rfl⟩
    iterate 6 refine AM ?_
    exact⟨rfl,zS rfl (by(rw[show dH n (yC n e-e)=_ from hg39,show dRe n (yC n e-e)=_ from hg41,show more=_ from hg44];rfl)) sX,rfl⟩
   iterate 11 refine AX ?_
   exact⟨rfl,zS rfl (by(rw[show dH n (yC n e-e)=_ from hg39];rfl)) sX,rfl⟩
  refine .sub [(49,_),(0,_),(10,_),(13,_),(14,_)] sX ?_;refine .cx rfl (λhc49=>?_) (λhc49=>?_)
  ·rw[aN hc49]at hmd;iterate 5 refine AM ?_
   exact⟨rfl,(zR rfl (by rw[hmd]) sX),rfl⟩
  rw[aM (by rw[hc49];decide)]at hmd;refine AX ?_;exact⟨rfl,(zR rfl (by rw[hmd]) sX),rfl⟩
 refine .sub [(14,_),(0,_),(10,_),(13,_)] sX ?_;iterate 5 refine AX ?_
 refine .cl rfl C318 (evs3 rfl rfl rfl) (ahJ neg _ hml _ (by constructor<;>omega) _) ?_;iterate 5 refine AX ?_
 refine⟨?_,rfl⟩;rw[hf4];rfl
theorem boV(v:Nat)(hv:v<M2)(k:Int)(hk: -52≤k∧k≤1000000)(h0:k≤0→v*2^(-k).toNat<M1)(h1:0<k→v/2^(k.toNat-1)<18014398509481984):Fn 295 [.int .i64 k,.iptr (u2 v).cells] (.tuple [.int .u64 ((dM v k:Nat):Int),.bool (dH v k),.bool (dRe v k)]):=by
 intro H;refine .of_body func295 rfl ntmps295 results295 rfl ?_;iterate 11 refine AM ?_
 iterate 3 refine AX ?_
 refine .cx rfl (λhc9=>?_) (λhc9=>?_)
 ·have hq:=h0 aA;iterate 5 refine AX ?_
  refine .cl rfl C296 (evs2 rfl rfl) (ajK v (-k).toNat aA (-k) aA _) (.p rfl (aoZ U220 rfl G25 Z25 (tm rfl) rfl) ?_);iterate 8 refine AX ?_
  refine⟨?_,rfl⟩;have e1:dM v k=v*2^(-k).toNat:=by unfold dM;rw[aK]
  have e2:dH v k=false:=by unfold dH;exact aS aA
  have e3:dRe v k=false:=by unfold dRe;exact aS aA
  have e4:v*2^(-k).toNat%M2%M1=v*2^(-k).toNat:=by rw[bH (eG hq aE),bH hq]
  rw[e1,e2,e3];show AV.tuple [.int .u64 ((v*2^(-k).toNat%M2%M1:Nat):Int),_,_]=_;rw[e4]
 have hq:=h1 aA;have hqm:v/2^(k.toNat-1)%M1<18446744073709551616:=agU _;iterate 7 refine AX ?_
 refine .cl rfl call297 (evs2 rfl rfl) (blE v hv (k.toNat-1) aA (k-1) aA _) ?_;iterate 3 refine AX ?_
 refine .al zr220 (λb6 hb6=>?_);iterate 4 refine AX ?_
 refine .frz (t:=6) rfl (hb6) ?_;refine AX ?_;refine .draw [(0,true),(3,true),(4,true),(5,true),(6,true),(7,true),(1,false),(2,true),(8,true),(9,true),(10,true)] rfl aE ?_;refine AX ?_;refine .p rfl rfl (zA U220 rfl Z25 (tm rfl)) ?_;iterate 4 refine AM ?_
 refine .s rfl rfl (zB C296 (.cons (tm rfl) (.cons zJ .nil)) (ajK (v/2^(k.toNat-1)) 63 aC 63 rfl _)) ?_;rintro _ _ ⟨rfl,hH⟩;obtain rfl:=hH.symm;refine .p rfl rfl (aoZ U220 rfl G25 Z25 (tm rfl) rfl) ?_;iterate 7 refine AX ?_
 refine⟨?_,rfl⟩;have e1:dM v k=v/2^k.toNat:=by unfold dM;rw[aJ]
 have e2:dH v k=decide (v/2^(k.toNat-1)%2=1):=by unfold dH;exact aQ.2 ⟨λq=>q.2,λq=>⟨by omega,q⟩⟩
 have e3:dRe v k=decide (v%2^(k.toNat-1)≠0):=by unfold dRe;exact aQ.2 ⟨λq=>q.2,λq=>⟨by omega,q⟩⟩
 have e4:v/2^(k.toNat-1)*2^63%M2/M1=v/2^k.toNat:=by rw[chX hq,bkM aA]
 have e5:decide (((v/2^(k.toNat-1)%M1&&&1:Nat):Int)=((1:Nat):Int))=decide (v/2^(k.toNat-1)%2=1):=by
  refine aQ.2 ?_;rw[bH (eG hq aE),show(1:Nat)=2^1-1 by decide,dS];omega
 rw[e1,e2,e3];show AV.tuple [.int .u64 ((v/2^(k.toNat-1)*2^63%M2/M1:Nat):Int),.bool (decide (((v/2^(k.toNat-1)%M1&&&1:Nat):Int)=((1:Nat):Int))),_]=_;rw[e4,e5]
theorem wLen2(v:Nat)(hv:v<M2):Fn 294 [u2 v] (.int .i64 (yN v:Int)):=by
 intro H;have h:=blF (v/M1) (v%M1) (bvD hv) (agU v) H;rw[show v/M1*18446744073709551616+v%M1=v from by have:=cM v M1;rw[bM]at this;exact this]at h;exact h
theorem ciI(v:Nat)(hv:v<M2)(e:Int)(hfar:boP v e=false)(H:Heap):ACall prog 295 ([.int .i64 (yC v e-e)]++[.iptr (u2 v).cells]) H (λy H'=>y= .tuple [.int .u64 ((dM v (yC v e-e):Nat):Int),.bool (dH v (yC v e-e)),.bool (dRe v (yC v e-e))]∧H'=H):=by
 obtain⟨h0,h1,h2,h3⟩:=bcR (neg:=false) (more:=false) hfar;have hb:yN v≤128:=qI.2 (by rw[show(2:Nat)^128=M2 by decide+kernel];exact hv);refine boV v hv (yC v e-e) ⟨?_,?_⟩ (λq=>?_) (λq=>?_) H
 ·rcases Int.lt_or_le e (yC v e)with h|h
  ·omega
  have:=bqK h0 h;omega
 ·unfold yC;split<;>omega
 ·have:=bcL (v:=v) (e:=e) aA;rw[show(-(yC v e-e)).toNat=(e-yC v e).toNat by omega];exact this
 exact awL aA
theorem aoH(neg:Bool)(v:Nat)(hv:v<M2)(e:Int)(he: -1000000000000000≤e∧e≤1000000000000000)(more:Bool):Fn 264 [.bool neg,u2 v,.int .i64 e,.bool more] (.int .u64 ((yD neg v e more:Nat):Int)):=by
 intro H;refine .of_body func264 rfl ntmps264 results264 rfl ?_;iterate 10 refine AM ?_
 refine .cl rfl call294 (evs1 rfl) (wLen2 v hv _) ?_;iterate 3 refine AX ?_
 refine .cl rfl call293 (.cons (tm rfl) (.cons (tm rfl) (evs3 rfl rfl rfl))) (baO neg v e more (by have:yN v≤128:=qI.2 (by rw[show(2:Nat)^128=M2 by decide+kernel];exact hv);omega) he 295 [.iptr (u2 v).cells] _ call295 (λhfar=>ciI v hv e hfar _)) ?_;iterate 5 refine AX ?_
 exact⟨rfl,rfl⟩
end
section
open Go Go.RowKit
set_option maxRecDepth 100000
def agY(v i:Nat):Nat:=v/4294967296^((zF v).length-i)%M2
theorem aqH(v:Nat):agY v 0=0:=by
 have h:=anC (zH v) (aZ (zF v).length);rw[fL,zN]at h;unfold agY;rw[gU,←h];rfl
theorem bhZ(v:Nat):agY v (zF v).length=v%M2:=by
 unfold agY;rw[Nat.sub_self,eA,gI]
theorem bqR(h:i<(zF v).length):agY v (i+1)=(agY v i*4294967296+(zF v).getD ((zF v).length-1-i) 0)%M2:=by
 have h1:=anC (zH v) (show(zF v).length-1-i≤(zF v).length by omega);have h2:=anC (zH v) (show(zF v).length-i≤(zF v).length by omega);rw[zN]at h1 h2;have h3:(zF v).drop ((zF v).length-1-i)=(zF v).getD ((zF v).length-1-i) 0::(zF v).drop ((zF v).length-i):=by
  rw[cL (show(zF v).length-1-i<(zF v).length by omega),aP,aX (show(zF v).length-1-i<(zF v).length by omega),show(zF v).length-1-i+1=(zF v).length-i by omega];rfl
 rw[h3,val,h2]at h1;unfold agY;rw[show(zF v).length-(i+1)=(zF v).length-1-i by omega,←h1];generalize v/4294967296^((zF v).length-i)=q;generalize(zF v).getD ((zF v).length-1-i) 0=x;unfold M2;omega
theorem azY(h:i<(zF v).length):putRow (u2 (agY v i*2^32%M2)).cells 1 [.int .u64 (((agY v i*2^32%M2%M1|||(zF v).getD ((zF v).length-1-i) 0:Nat)):Int)]=(u2 (agY v (i+1))).cells:=by
 obtain⟨e1,e2⟩:=cfS (v:=agY v i) (Limbs.getD (zH v) ((zF v).length-1-i));rw[bqR h,e2];show putRow [.int .u64 (((agY v i*2^32%M2/M1:Nat)):Int),_] 1 _=_;rw[e1];rfl
theorem bgF:∀(c v:Nat),(zF v).drop c=zF (v/4294967296^c)
 |0,v=>by rw[dL,eA,gI]
 |c+1,v=>by
  rcases bF v with h|h
  ·subst h;rw[Nat.zero_div,aaU,List.drop_nil]
  rw[qV h,List.drop_succ_cons,bgF c,cC,bP,bM]
theorem chI(h:c≤(zF v).length):val ((zF v).take c)=v%4294967296^c:=by
 have h1:=agG h;have h2:=anO (zH v) h;rw[zN]at h1
 conv=>rhs;rw[h1]
 rw[dW,bH h2]
theorem ayA(c:Nat):4294967296^c=2^(32*c):=by rw[show(4294967296:Nat)=2^32 by decide,←dV]
theorem limbs4(h:(zF v).length≤4):v<M2:=by
 have:=aeO (zH v);rw[zN]at this;refine bQ this ?_;rw[ayA,show M2=2^128 by decide+kernel];exact bB aC aA
theorem bcA(h:(zF v).length=c+4):55≤yN (v/2^(32*c))∧v/2^(32*c)<M2∧(zF (v/2^(32*c))).length=4:=by
 have e:=bgF c v;rw[ayA]at e;have el:(zF (v/2^(32*c))).length=4:=by rw[←e,bO];omega
 refine⟨?_,limbs4 aA,el⟩;have hp:0<v/2^(32*c):=by
  rcases bF (v/2^(32*c))with h0|h0
  ·rw[h0]at el;simp[aaU]at el
  exact h0
 have:=akI hp;omega
def bhW(v b2 b3:Nat)(H:Heap):Nat→Env→Heap→Prop:=λk env H1=>∃i:Nat,i≤(zF v).length∧env=[(0,qX v),(2,.ptr (some ⟨b2,0,none⟩)),(3,.ptr (some ⟨b3,0,none⟩)),(6,.int .i64 ((zF v).length:Int)),(7,.int .i64 (i:Int))]∧H1=(H.set b2 (.box 220 [.int .u64 0,.int .u64 0])).set b3 (.box 220 (u2 (agY v i)).cells)∧k=(zF v).length-i
theorem bdS(v:Nat)(hv:(zF v).length≤1000000):Fn 322 [qX v] (u2 (v%M2)):=by
 intro H;refine .of_body func322 rfl ntmps322 results322 rfl ?_;iterate 2 refine AX ?_
 refine .al zr220 (λb2 hb2=>?_);iterate 4 refine AX ?_
 refine .al zr220 (λb3 hb3=>?_);have hn2_3:=Heap.ne_of (oS _ _ _) hb3;iterate 11 refine AX ?_
 rw[show([.int .u64 0,.int .u64 0]:List AV)=(u2 (agY v 0)).cells by rw[aqH];rfl];refine .loopW (bhW v b2 b3 H) ((zF v).length) ⟨0,Nat.zero_le _,rfl,by rw[aqH];rfl,rfl⟩ sX (hRa _) ?_;rintro _ _ _ ⟨i,hi,rfl,rfl,rfl⟩;iterate 6 refine AX ?_
 refine .cx rfl (λhc8=>?_) (λhc8=>?_)
 ·have hlv:i<(zF v).length:=by omega
  have hgx:=Limbs.getD (zH v) ((zF v).length-1-i);have hlo:agY v i*2^32%M2%M1<18446744073709551616:=agU _;iterate 13 refine AX ?_
  refine .cl rfl C296 (.cons (tm rfl) (.cons zJ .nil)) (ajK (agY v i) 32 aC 32 rfl _) ?_;iterate 3 refine AX ?_
  refine .draw [(0,true),(2,true),(3,true),(4,true),(5,true),(6,true),(7,true),(8,true),(9,true),(10,true),(1,false),(11,true),(12,true),(13,false)] rfl aE ?_;refine .p rfl rfl (zC U220 rfl Z25 (tm rfl)) ?_;iterate 6 refine AX ?_
  refine .p rfl rfl (zV ((zF v).length-1-i) U159 Z210 (tm rfl) (tm rfl) aA aA) ?_;iterate 2 refine AX ?_
  refine .s rfl rfl (zM G25 (tm rfl) (oS _ _ _) rfl) ?_;rintro _ _ ⟨rfl,hH⟩;obtain rfl:=hH.symm;refine AX ?_;refine .p rfl rfl (zC U220 rfl Z25 (tm rfl)) (.s0 rfl (zL Z25 (tm rfl) (tm rfl) rfl rfl (.inl rfl) (oS _ _ _) (lB rfl)) ?_);rintro _ _ ⟨rfl,hH⟩;obtain rfl:=hH.symm;try first|rw[sS]|rw[sU aB]
  iterate 8 refine AX ?_
  refine Round.mk ⟨i+1,by omega,rfl,rfl,rfl⟩ (zK rfl (zK rfl (zK rfl (zK rfl (zR rfl (by congr 1) yF))))) (by rw[←azY hlv];exact hRa _) aA
 obtain rfl:i=(zF v).length:=by omega
 rw[bhZ];iterate 11 refine AX ?_
 refine .dropb (fS hb3 _) ?_;refine .frz (t:=2) rfl (hb2) ?_;iterate 2 refine AX ?_
 exact⟨rfl,rfl⟩
def aiS(v:Nat):Nat:=(zF v).length-4
def chL(v:Nat)(more:Bool):Bool:=more||decide (v%2^(32*aiS v)≠0)
theorem brY{neg:Bool}{e:Int}(he: -10000≤e∧e≤2000):yD neg v e more=yD neg (v/2^(32*aiS v)) (e+32*(aiS v:Int)) (chL v more):=by
 rcases bF (aiS v)with h|h
 ·unfold chL;rw[h];simp[Nat.mod_one]
 have hl:(zF v).length=aiS v+4:=by unfold aiS at *;omega
 have:=arA (neg:=neg) (n:=v) (j:=32*aiS v) (more:=more) (bcA hl).1 he.1 he.2;rw[this];unfold chL;congr 1<;>omega
theorem ciU(v:Nat):v/2^(32*aiS v)<M2∧(zF (v/2^(32*aiS v))).length≤4:=by
 rcases bF (aiS v)with h|h
 ·rw[h,dJ,eA,gI];have:(zF v).length≤4:=by unfold aiS at h;omega
  exact⟨limbs4 this,this⟩
 have hl:(zF v).length=aiS v+4:=by unfold aiS at *;omega
 have:=bcA hl;exact⟨this.2.1,by omega⟩
theorem bbV{x:Nat}(hx:x=(zF v).getD i 0):(more||decide (val ((zF v).take i)≠0)||decide (((0:Nat):Int)<(x:Int)))=(more||decide (val ((zF v).take (i+1))≠0)):=by
 rw[yV,←hx,Bool.or_assoc];congr 1;rw[←Bool.decide_or];refine aQ.2 ?_;have hp:0<4294967296^i:=bL aC;generalize 4294967296^i=q at *;generalize val ((zF v).take i)=y;rcases bF x with h|h
 ·subst h;simp
 have h2:0<q*x:=gS hp h;constructor
 ·intro _;omega
 intro _;exact .inr aA
theorem boG{l:List Nat}(h:i<c):(l.take c).getD i 0=l.getD i 0:=by
 rw[aP,eT,aN h,aP]
theorem chK:(more||decide (val ((zF v).take (aiS v))≠0))=chL v more:=by
 unfold chL;rw[chI (show aiS v≤(zF v).length by unfold aiS;omega),ayA]
def beO(neg more:Bool)(e:Int)(v:Nat)(H:Heap):Nat→Env→Heap→Prop:=λk env H1=>∃i:Nat,i≤aiS v∧env=[(0,.bool neg),(1,qX v),(2,.int .i64 e),(3,.bool (more||decide (val ((zF v).take i)≠0))),(8,.int .u64 ((0:Nat):Int)),(9,.int .i64 (((zF v).length:Int)-4)),(23,.slice 1 (U .u32 ((zF v).take (aiS v))) .shared),(24,.int .i64 (((zF v).take (aiS v)).length:Int)),(25,.int .i64 (i:Int))]∧H=H1∧k=aiS v-i
def brZ(neg more:Bool)(e:Int)(v b:Nat)(H:Heap):Nat→Env→Heap→Prop:=λk env H1=>∃i:Nat,i≤(zF v).length∧env=[(0,.bool neg),(1,qX v),(2,.int .i64 e),(3,.bool more),(12,.ptr (some ⟨b,0,none⟩)),(45,.int .i64 ((zF v).length:Int)),(46,.int .i64 (i:Int))]∧H1=H.set b (.box 220 (u2 (agY v i)).cells)∧k=(zF v).length-i
theorem atF(neg:Bool)(xs:List Nat)(tl:Tail)(hx:Limbs xs)(hl:xs.length≤1000)(e:Int)(he: -10000≤e∧e≤2000)(more:Bool):Fn 273 [.bool neg,.slice 1 (U .u32 xs) tl,.int .i64 e,.bool more] (.int .u64 ((yD neg (val xs) e more:Nat):Int)):=by
 intro H;have hr:=brY (neg:=neg) (v:=val xs) (e:=e) (more:=more) he;have hcl:=ciU (val xs);have hvl:(zF (val xs)).length≤xs.length:=by rw[←abD hx];exact aaR xs
 have hcd:aiS (val xs)=(zF (val xs)).length-4:=rfl;have hdr:=bgF (aiS (val xs)) (val xs);rw[ayA]at hdr;have hla:=chK (v:=val xs) (more:=more);have hT:=aoG xs tl hx aA;generalize val xs=v0 at *;refine .of_body func273 rfl ntmps273 results273 rfl ?_;iterate 8 refine AM ?_
 refine .cl rfl C171 (evs1 rfl) (hT _) ?_;iterate 3 refine AX ?_
 refine .seqToL [(1,qX (v0/2^(32*aiS v0))),(2,.int .i64 (e+32*(aiS v0:Int))),(3,.bool (chL v0 more))] [0,8] ?_ ?_
 ·iterate 14 refine AX ?_
  refine .cx rfl (λhc20=>?_) (λhc20=>?_)
  ·iterate 5 refine AX ?_
   refine .p rfl (adE (aiS v0) U159 Z210 (tm rfl) (tm rfl) aA aA) ?_;iterate 5 refine AX ?_
   refine .loopW (beO neg more e v0 H) (aiS v0) ⟨0,Nat.zero_le _,rfl,rfl,rfl⟩ (zK rfl (zK rfl (zK rfl (zR rfl (by simp[val]) sX)))) (hRa _) ?_;rintro _ _ _ ⟨i,hi,rfl,rfl,rfl⟩;have htl:((zF v0).take (aiS v0)).length=aiS v0:=by rw[aV];omega
   have hgq:((zF v0).take (aiS v0)).getD i 0<18446744073709551616:=eG (Limbs.getD ((zH v0).take _) i) aC;iterate 6 refine AX ?_
   refine .cx rfl (λhc26=>?_) (λhc26=>?_)
   ·have hgt:=boG (l:=zF v0) (c:=aiS v0) (i:=i) aA;iterate 6 refine AX ?_
    refine .p rfl (zV (i) U159 Z210 (tm rfl) (tm rfl) aA aA) ?_;iterate 7 refine AX ?_
    refine zD (t:=30) rfl (λhg30=>?_) (λhg30=>?_)
    ·have hh30:=hg30;try simp only[aL]at hh30
     iterate 12 refine AX ?_
     refine Round.mk ⟨i+1,by omega,rfl,rfl,rfl⟩ (zK rfl (zK rfl (zK rfl (zR rfl (by rw[←bbV hgt,hg30];rfl) sX)))) (hRa _) aA
    have hh30:=hg30;try simp only[aL]at hh30
    iterate 8 refine AM ?_
    iterate 4 refine AX ?_
    refine Round.mk ⟨i+1,by omega,rfl,rfl,rfl⟩ (zK rfl (zK rfl (zK rfl (zR rfl (by rw[←bbV hgt,hg30];rfl) sX)))) (hRa _) aA
   obtain rfl:i=aiS v0:=by omega
   iterate 12 refine AX ?_
   refine .cond_true (tm rfl) (by exact aU aA) ?_;iterate 11 refine AX ?_
   refine .p rfl (amG (aiS v0) U159 Z210 (tm rfl) (tm rfl) aA aA) ?_;iterate 2 refine AX ?_
   exact⟨rfl,(zR rfl (by(rw[hdr];rfl)) (zR rfl (by(congr 1;omega)) (zR rfl (by(rw[←hla];done)) sX))),rfl⟩
  have hc0:aiS v0=0:=by omega
  refine AX ?_;exact⟨rfl,(zR rfl (by(rw[hc0,dJ,eA,gI];done)) (zR rfl (by(congr 1;omega)) (zR rfl (by(rw[←hla,hc0];simp[val])) sX))),rfl⟩
 refine .sub [(1,_),(2,_),(3,_),(0,_),(8,_)] sX ?_;have he2: -10000≤e+32*(aiS v0:Int)∧e+32*(aiS v0:Int)≤100000:=by omega
 rw[hr];generalize e+32*(aiS v0:Int)=e2 at he2 ⊢;generalize chL v0 more=more2;obtain⟨hv,hv4⟩:=hcl;clear hla hdr hr;generalize v0/2^(32*aiS v0)=v at hv hv4 ⊢;iterate 2 refine AX ?_
 refine .al zr220 (λb12 hb12=>?_);iterate 11 refine AX ?_
 rw[show([.int .u64 0,.int .u64 0]:List AV)=(u2 (agY v 0)).cells by rw[aqH];rfl];refine .loopW (brZ neg more2 e2 v b12 H) ((zF v).length) ⟨0,Nat.zero_le _,rfl,rfl,rfl⟩ sX (hRa _) ?_;rintro _ _ _ ⟨i,hi,rfl,rfl,rfl⟩;iterate 6 refine AX ?_
 refine .cx rfl (λhc47=>?_) (λhc47=>?_)
 ·have hlv:i<(zF v).length:=by omega
  have hgx:=Limbs.getD (zH v) ((zF v).length-1-i);have hlo:agY v i*2^32%M2%M1<18446744073709551616:=agU _;iterate 13 refine AX ?_
  refine .cl rfl C296 (.cons (tm rfl) (.cons zJ .nil)) (ajK (agY v i) 32 aC 32 rfl _) ?_;iterate 3 refine AX ?_
  refine .draw [(0,true),(2,true),(3,true),(4,true),(5,true),(6,true),(7,true),(8,true),(9,true),(10,true),(1,false),(11,true),(12,true),(13,false)] rfl aE ?_;refine .p rfl rfl (zC U220 rfl Z25 (tm rfl)) ?_;iterate 6 refine AX ?_
  refine .p rfl rfl (zV ((zF v).length-1-i) U159 Z210 (tm rfl) (tm rfl) aA aA) ?_;iterate 2 refine AX ?_
  refine .s rfl rfl (zM G25 (tm rfl) (oS _ _ _) rfl) ?_;rintro _ _ ⟨rfl,hH⟩;obtain rfl:=hH.symm;refine AX ?_;refine .p rfl rfl (zC U220 rfl Z25 (tm rfl)) (.s0 rfl (zL Z25 (tm rfl) (tm rfl) rfl rfl (.inl rfl) (oS _ _ _) (lB rfl)) ?_);rintro _ _ ⟨rfl,hH⟩;obtain rfl:=hH.symm;try first|rw[sS]|rw[sU aB]
  iterate 8 refine AX ?_
  refine Round.mk ⟨i+1,by omega,rfl,rfl,rfl⟩ sX (by rw[←azY hlv];exact hRa _) aA
 obtain rfl:i=(zF v).length:=by omega
 rw[bhZ,bH hv];iterate 11 refine AX ?_
 refine .cl rfl call264 (.cons (tm rfl) (evs3 rfl rfl rfl)) (aoH neg v hv e2 (by constructor<;>omega) more2 _) ?_;iterate 3 refine AX ?_
 refine .dropb (hb12) ?_;iterate 2 refine AX ?_
 refine⟨?_,rfl⟩;rfl
end
def atW(k:Int):Int:=if k<0 then-((yN (10^(-k).toNat)+127:Nat):Int)else(yN (10^k.toNat):Int)-128
def abN(k:Int):Nat:=
 if k<0 then 2^(yN (10^(-k).toNat)+127)/10^(-k).toNat
 else if yN (10^k.toNat)≤128 then 10^k.toNat*2^(128-yN (10^k.toNat))
 else 10^k.toNat/2^(yN (10^k.toNat)-128)
def bdL(k:Int):Bool:=if k<0 then false else decide (yN (10^k.toNat)≤128∨10^k.toNat%2^(yN (10^k.toNat)-128)=0)
def aiQ(m:Nat)(k:Int):Nat:=
 if 0≤k then yD false (m*10^k.toNat) 0 false else bbE m (10^(-k).toNat) (yN (10^(-k).toNat)+127)
def akV(m:Nat)(k:Int):Nat:=yD false (abN k*m) (atW k) false
def arL(m:Nat)(k:Int):Bool:=bdL k||decide (yD false ((abN k+1)*m) (atW k) false=akV m k)
def axC(m:Nat)(k:Int):Nat:=yN (10^(-k).toNat)+66-yN m
def axB(m:Nat)(k:Int):Nat:=if 0≤k then yD false (m*10^k.toNat) 0 false else bbE m (10^(-k).toNat) (axC m k)
theorem acG(j:Nat):0<10^j:=bL aC
theorem cfO(j:Nat):10^j<2^(4*j+1):=by
 refine bA (Nat.pow_le_pow_left (show 10≤2^4 by decide) j) ?_;rw[←dV];exact eV aC aA
theorem ajL(j:Nat):yN (10^j)≤4*j+1:=qI.2 (cfO j)
theorem aeI{n:Nat}(h:0<n):0<yN n:=abO.2 (by rw[eA];exact h)
theorem asY{n:Nat}(h:0<n):2^(yN n-1)≤n:=abO.1 (by have:=aeI h;omega)
theorem afA(n:Nat):n<2^yN n:=qI.1 (aZ _)
theorem beW{b K p:Nat}(hm:0<m)(hp:0<p)(hb:0<b)(hK:K≤10000)(h1:p*b≤2^K)(h2:2^K<(p+1)*b):
  yD false (p*m) (-(K:Int)) false≤bbE m b K∧bbE m b K≤yD false ((p+1)*m) (-(K:Int)) false:=by
 have hpm:0<p*m:=gS hp hm;have e1:p*m≤m*2^K/b:=by
  rw[eB hb,bM p m,bJ];exact bS _ h1
 have e2:m*2^K/b<(p+1)*m:=by
  rw[bW hb,bM (p+1) m,bJ];exact fZ h2 hm
 unfold bbE;constructor
 ·refine ajR aA aA hpm ?_;rcases Nat.lt_or_eq_of_le e1 with h|h
  ·grind
  grind
 exact ajR aA aA aA (.inl e2)
theorem bfZ{t p j:Nat}(hm:0<m)(hj:j≤2000)(hb:55≤yN p)(h1:p*2^j≤t)(h2:t<(p+1)*2^j):
  yD false (p*m) (j:Int) false≤yD false (m*t) 0 false∧yD false (m*t) 0 false≤yD false ((p+1)*m) (j:Int) false:=by
 have hj0:0<2^j:=bL aC;have hp:0<p:=by
  rcases bF p with h|h
  ·subst h;have:=qI.2 (show 0<2^0 by decide);omega
  exact h
 have hpm:0<p*m:=gS hp hm;have e1:p*m≤m*t/2^j:=by
  rw[eB hj0,bM p m,bJ];exact bS _ h1
 have e2:m*t/2^j<(p+1)*m:=by
  rw[bW hj0,bM (p+1) m,bJ];exact fZ h2 hm
 have hbl:55≤yN (m*t/2^j):=bC hb (ahV (bC (fD _ hm) e1));rw[arA (n:=m*t) (j:=j) hbl aA aA,show(0:Int)+(j:Int)=(j:Int) by omega];constructor
 ·refine ajR aA aA hpm ?_;rcases Nat.lt_or_eq_of_le e1 with h|h
  ·grind
  grind
 exact ajR aA aA aA (.inl e2)
theorem bfP{j:Nat}:0<2^(yN (10^j)+127)/10^j:=by
 rw[Nat.div_pos_iff];refine⟨acG j,bC (dK (afA _)) (bB aC aA)⟩
theorem bfD{k:Int}(hm:0<m)(hk: -400≤k∧k≤400)(h:arL m k=true):akV m k=aiQ m k:=by
 unfold arL akV at h;unfold akV aiQ;rcases Int.lt_or_le k 0 with hn|hn
 ·rw[aJ];have hA:bdL k=false:=by unfold bdL;rw[aN hn]
  have hE:atW k= -((yN (10^(-k).toNat)+127:Nat):Int):=by unfold atW;rw[aN hn]
  have hP:abN k=2^(yN (10^(-k).toNat)+127)/10^(-k).toNat:=by unfold abN;rw[aN hn]
  rw[hA,Bool.false_or,aT]at h;have hbl:=ajL (-k).toNat;have ht:=acG (-k).toNat;have hp:=@bfP (-k).toNat;rw[hE,hP]at h;rw[hE,hP];generalize hK:yN (10^(-k).toNat)+127=K at *;obtain⟨a,b⟩:=beW (m:=m) (b:=10^(-k).toNat) (K:=K) (p:=2^K/10^(-k).toNat) hm hp ht aA (eZ _ _) (by
    have:=fE (2^K/10^(-k).toNat);exact(bW ht).1 this)
  rw[h]at b;exact Nat.le_antisymm a b
 rw[aN hn];have hE:atW k=(yN (10^k.toNat):Int)-128:=by unfold atW;rw[aJ]
 have hbl:=ajL k.toNat;have ht:=acG k.toNat;rcases bX 128 (yN (10^k.toNat))with hl|hl
 ·have hP:abN k=10^k.toNat/2^(yN (10^k.toNat)-128):=by unfold abN;rw[aJ,aJ]
  have hA:bdL k=decide (10^k.toNat%2^(yN (10^k.toNat)-128)=0):=by
   unfold bdL;rw[aJ];exact aQ.2 ⟨λq=>q.resolve_left aA,.inr⟩
  have hj:(yN (10^k.toNat):Int)-128=((yN (10^k.toNat)-128:Nat):Int):=by omega
  rw[hE,hj,hP,hA]at h;rw[hE,hj,hP];have hb:yN (10^k.toNat/2^(yN (10^k.toNat)-128))=128:=by
   have hpos:0<10^k.toNat/2^(yN (10^k.toNat)-128):=by
    rw[Nat.div_pos_iff];exact⟨bL aC,bC (bB aC aA) (asY ht)⟩
   have:=bhE hpos;omega
  generalize hjj:yN (10^k.toNat)-128=j at *;generalize htt:10^k.toNat=t at *;have hj0:0<2^j:=bL aC;rw[dB,aT,aT]at h;rcases h with h|h
  ·have e:m*t=t/2^j*m*2^j:=by
    have:=cM t (2^j);rw[h,cA]at this
    conv=>lhs;rw[←this]
    rw[bM (2^j),←bJ,bM m]
   rw[e,adN aA aA,show(0:Int)+(j:Int)=(j:Int) by omega]
  obtain⟨a,b⟩:=bfZ (m:=m) (t:=t) (p:=t/2^j) (j:=j) hm aA aA (eZ _ _) ((bW hj0).1 (fE _));rw[h]at b;exact Nat.le_antisymm a b
 have hP:abN k=10^k.toNat*2^(128-yN (10^k.toNat)):=by unfold abN;rw[aJ,aN hl]
 rw[hE,hP,show(yN (10^k.toNat):Int)-128= -((128-yN (10^k.toNat):Nat):Int) by omega];rw[show 10^k.toNat*2^(128-yN (10^k.toNat))*m=m*10^k.toNat*2^(128-yN (10^k.toNat)) by rw[bM _ m,←bJ]];rw[adN aA aA];congr 1;omega
theorem baK{k:Int}(hm:0<m)(hk: -2000≤k):axB m k=aiQ m k:=by
 unfold axB aiQ;split
 ·rfl
 rename_i hn
 have hbl:=ajL (-k).toNat;have ht:=acG (-k).toNat;have hb:=aeI hm;refine(biT ht ?_ (by unfold axC;omega) aA).symm;have h1:=asY hm;have h2:=afA (10^(-k).toNat);have h3:2^65≤m*2^axC m k/10^(-k).toNat:=by
  rw[eB ht];refine bC (bS _ (dK h2)) (bC ?_ (bD _ h1));rw[←bI,←bI];exact bB aC (by unfold axC;omega)
 have:=abO.2 h3;omega
theorem agH(n:Nat)(e:Int)(more:Bool):yD false n e more≤anL:=by
 unfold yD;split
 ·exact Nat.zero_le _
 split
 ·exact Nat.le_of_eq (by unfold abA;simp)
 rw[arV];have h:=ajA n e more;unfold abA pk;rw[aM aC,bZ];split
 ·exact bbQ _ _ aC
 exact bbQ _ _ aA
end Go.Proofs.YteedncdcbgplfaaGreatDoor
