import Derived.Test.YtmmgbnolccpjoaaGreatDoorX1
set_option maxHeartbeats 1000000
namespace Go.Proofs.YtmmgbnolccpjoaaGreatDoor
open Go.Proofs.Tryz
open Go Go.RowKit
variable{a k n v x y:Nat}
section
set_option maxRecDepth 100000
def allD:List UInt8:=[48,49,50,51,52,53,54,55,56,57]
theorem cfC{b:UInt8}(h:isD b):allD.contains b=true:=by
 have h1:b=UInt8.ofNat b.toNat:=by simp
 obtain⟨h2,h3⟩:=h;rw[h1];have:∀k,48≤k→k≤57→allD.contains (UInt8.ofNat k)=true:=by
  intro k a b;have:k=48∨k=49∨k=50∨k=51∨k=52∨k=53∨k=54∨k=55∨k=56∨k=57:=by omega
  rcases this with rfl|rfl|rfl|rfl|rfl|rfl|rfl|rfl|rfl|rfl<;>rfl
 exact this _ h2 h3
theorem bbQ{α:Type}{l:List α}{q:α→Bool}(h:∀x,x∈l→q x=true):l.dropWhile q=[]:=by
 induction l with
 |nil=>rfl
 |cons x l ih=>rw[eF,aN (h x aF)];exact ih λy hy=>h y (by simp[hy])
theorem buA{s:List UInt8}(h:Digs s):Lib.trimS s allD=[]:=by
 have h1:s.reverse.dropWhile (allD.contains ·)=[]:=bbQ λx hx=>cfC (h x (by simpa using hx));show((s.reverse.dropWhile (allD.contains ·)).reverse.dropWhile (allD.contains ·))=[];rw[h1];rfl
theorem beZ:∀s:List UInt8,num (s.dropWhile (·==48))=num s
 | []=>rfl
 |c::r=>by
  rw[eF];split
  ·rename_i h
   have h1:c=48:=by simpa using h
   rw[beZ r,baZ,h1];simp
  rfl
theorem bwS{l:List UInt8}(h:Digs l)(hl:l.length≤2400):num l<BIG:=by
 have h1:=aiN h;obtain⟨a,ha,h3⟩:∃a:Nat,a=2400∧10^a<BIG:=⟨2400,rfl,by unfold BIG;decide+kernel⟩;have h2:10^l.length≤10^a:=aW aC aA;exact bM h1 (aZ h2 (cT h3))
theorem bjJ{s p t:List UInt8}(h:Digs s)(hl:s.length≤2000)(e:s=p++t)(hn:n=min 9 t.length)(ht:0<t.length):t.take n≠[]∧Digs (t.take n)∧(t.take n).length≤18∧10^n<BIG∧num p<BIG∧num p*10^n<BIG∧num p*10^n+num (t.take n)<BIG∧num (p++t.take n)=num p*10^n+num (t.take n)∧s=(p++t.take n)++t.drop n∧num (t.take n)<1000000000∧n≤t.length∧n≤9∧0<n:=by
 have hlen:(t.take n).length=n:=by rw[aS];omega
 have hp:Digs p:=λb hb=>h b (by rw[e];simp[hb]);have htd:Digs t:=λb hb=>h b (by rw[e];simp[hb]);have hps:p.length+t.length≤2000:=by rw[e,aP]at hl;exact hl
 have hq:num (p++t.take n)=num p*10^n+num (t.take n):=by rw[ayF,hlen]
 have hd2:Digs (p++t.take n):=λb hb=>by
  rcases dP.1 hb with h1|h1
  ·exact hp b h1
  exact htd.take n b h1
 have hB:=bwS hd2 (by rw[aP,hlen];omega);rw[hq]at hB;have hpB:10^n<BIG:=by
  have h2:10^n≤10^9:=aW aC aA;exact aU h2 (by unfold BIG;decide+kernel)
 have hn9:=aiN (htd.take n);rw[hlen]at hn9;have h9:10^n≤10^9:=aW aC aA;refine⟨λh0=>?_,htd.take n,by omega,hpB,bwS hp aA,by omega,hB,hq,by rw[aQ,dB];exact e,by omega,by omega,by omega,by omega⟩;rw[h0]at hlen;simp at hlen;omega
def bwI(s0:List UInt8)(H:Heap):Nat→Env→Heap→Prop:=λk env H1=>∃p t:List UInt8,s0=p++t∧env=[(0,.str t),(4,qL (num p)),(5,.int .i64 0)]∧H=H1∧k=t.length
theorem blD(s:List UInt8)(hne:s≠[])(hd:Digs s)(hl:s.length≤2000):Fn 267 [.str s] (.tuple [qL (num s),.int .i64 0]):=by
 intro H;have hd0:=hd.dropWhile (·==48);have hl0:(s.dropWhile (·==48)).length≤2000:=aZ (eY _).length_le hl;have hnz:=beZ s;refine .of_body func267 rfl ntmps267 results267 rfl ?_;iterate 2 refine AX ?_
 refine AM ?_;iterate 4 refine AX ?_
 refine .seqTo 17 (.bool (false)) [0,2,3] ?_ ?_
 ·iterate 4 refine AX ?_
  refine zC (t:=13) rfl (λhg13=>?_) (λhg13=>?_)
  ·iterate 5 refine AX ?_
   exact⟨rfl,zL rfl (by(simp at hg13;exact absurd hg13 hne)) sX,rfl⟩
  refine AX ?_;refine .gs rfl rfl rfl aB (zB call259 (.cons (tm rfl) (.cons (zO rfl) .nil)) (trimSetA _ aC aC _ _)) ?_;rintro _ _ ⟨rfl,hH⟩;obtain rfl:=hH.symm;iterate 3 refine AX ?_
  exact⟨rfl,zL rfl (by(rw[show Lib.trimS s [48,49,50,51,52,53,54,55,56,57]=[]from buA hd];rfl)) sX,rfl⟩
 refine .sub [(17,_),(0,_),(2,_),(3,_)] sX ?_;refine .cond_false (tm rfl) aD ?_;iterate 5 refine AX ?_
 refine .cl rfl call163 (.cons (tm rfl) (.cons (zO rfl) .nil)) (trimLeftA 48 aC _ _) ?_;iterate 5 refine AX ?_
 generalize s.dropWhile (·==48)=s0 at *;iterate 6 refine AX ?_
 refine .cx rfl (λhc22=>?_) (λhc22=>?_)
 ·omega
 iterate 4 refine AX ?_
 refine AM ?_;iterate 9 refine AX ?_
 refine .loopW (bwI s0 H) (s0.length) ⟨[],s0,rfl,rfl,rfl,rfl⟩ sX (hRa _) ?_;rintro _ _ _ ⟨p,t,he,rfl,rfl,hk⟩;iterate 8 refine AX ?_
 refine .cx rfl (λhc25=>?_) (λhc25=>?_)
 ·iterate 3 refine AX ?_
  refine .seqToL [(6,.int .i64 ((min 9 t.length:Nat):Int))] [0,4,5] ?_ ?_
  ·iterate 6 refine AX ?_
   exact⟨rfl,(zM rfl (by congr 1;simp only[btO];first|omega|(split<;>omega)) sX),rfl⟩
  refine .sub [(6,_),(0,_),(4,_),(5,_)] sX ?_;generalize hn:min 9 t.length=n;obtain⟨hq1,hq2,hq3,hpB,hB1,hB2,hB3,hnum,hsplit,hn9,hnt,hn99,hn0⟩:=bjJ hd0 hl0 he hn.symm aA;iterate 5 refine AX ?_
  refine .cl rfl call257 (evs1 rfl) (atoiA (t.take n) hq1 hq2 hq3 _) ?_;iterate 10 refine AX ?_
  refine .cl rfl C268 (.cons zH (evs1 rfl)) (avQ 10 n aC aC aA hpB _) ?_;iterate 12 refine AX ?_
  refine .cl rfl C269 (evs2 rfl rfl) (mulB _ _ hB1 hpB hB2 _) ?_;iterate 13 refine AX ?_
  refine .cond_true (tm rfl) aD ?_;iterate 4 refine AX ?_
  refine .cl rfl C230 (evs1 rfl) (asI _ aA _) (.cl rfl call309 (evs2 rfl rfl) (addB _ _ hB3 _) ?_);iterate 14 refine AX ?_
  refine .cond_false (tm rfl) aD ?_;iterate 10 refine AX ?_
  have hdl:(t.drop n).length=t.length-n:=bD;refine Round.mk ⟨p++t.take n,t.drop n,hsplit,rfl,rfl,rfl⟩ (zI rfl (zM rfl (by rw[hnum]) (zI rfl yJ))) (hRa _) aA
 iterate 14 refine AX ?_
 refine⟨?_,rfl⟩;have ht:t=[]:=cF.1 aA;rw[ht,bP]at he;rw[←hnz,he];rfl
end
section
open Go Go.RowKit Go.Shelf
theorem bzT(h:0<x):zY x=1+zY (x/2):=by
 rcases cG x 2 with h1|h1
 ·have:x=1:=by omega
  subst this;rfl
 rw[agD (n:=x) (k:=1) (m:=x/2) aA (by rw[gD])]
theorem azA:∀(f x:Nat),x<2^f→Lib.bitLenAux f x=zY x
 |0,x,h=>by
  have:x=0:=by simpa using h
  subst this;rfl
 |f+1,x,h=>by
  unfold Lib.bitLenAux;split
  ·rename_i h0;subst h0;rfl
  rw[azA f (x/2) (by rw[bQ]at h;omega),bzT (x:=x) aA]
theorem len64A(x:Nat)(hx:x<18446744073709551616):Fn 182 [.int .u64 (x:Int)] (.int .i64 (zY x:Int)):=by
 intro H;refine .lib _ λg vs w k st=>?_;obtain⟨v,rfl,hv⟩:=relvs1 k;cases hv
 refine(Tryz.bits_Len64 (x:Int) w aA aA).mono ?_;rintro e w' ⟨rfl,rfl⟩;refine⟨_,rfl,?_,Below.refl _ _⟩;rw[dL,Lib.bitLen,azA 64 x hx];exact .int _ _
theorem mul64A(x y:Nat)(hx:x<18446744073709551616)(hy:y<18446744073709551616)(H:Heap):ACall prog 245 [.int .u64 (x:Int),.int .u64 (y:Int)] H (λz H'=>z= .tuple [.int .u64 ((x*y/18446744073709551616:Nat):Int),.int .u64 ((x*y%18446744073709551616:Nat):Int)]∧H'=H):=by
 refine .lib _ λg vs w k st=>?_;obtain⟨v,u,rfl,hv,hu⟩:=relvs2 k;cases hv;cases hu
 refine(Tryz.bits_Mul64 x y hx hy w).mono ?_;rintro e w' ⟨rfl,rfl⟩;refine⟨_,rfl,.tuple _ _ rfl (λi c v hc hv=>?_),Below.refl _ _⟩
 match i with
 |0=>cases hc;cases hv;exact .int _ _
 |1=>cases hc;cases hv;exact .int _ _
 |i+2=>simp at hc
theorem ext291:IsExt prog 291 add64Entry:=⟨_,func291,by kernel_rfl,by kernel_rfl,by kernel_rfl,by kernel_rfl⟩
theorem bfY{x y c:Nat}(hc:c≤1):∀g vs w,RelVs g [.int .u64 (x:Int),.int .u64 (y:Int),.int .u64 (c:Int)] vs→∃v,(add64Entry vs.toArray).run prog w= .ok v w∧RelV g (.tuple [.int .u64 (((x+y+c)%18446744073709551616:Nat):Int),.int .u64 (((x+y+c)/18446744073709551616:Nat):Int)]) v:=by
 intro g vs w hr;obtain⟨v,u,z,rfl,h1,h2,h3⟩:=relvs3 hr;cases h1;cases h2;cases h3
 have hrun:=run_add64 (P:=prog) (x:Int) (y:Int) (c:Int) aA aA aA aA w;refine⟨_,hrun,.tuple _ _ rfl (λi c v hc hv=>?_)⟩
 match i with
 |0=>cases hc;cases hv;exact .int _ _
 |1=>cases hc;cases hv;exact .int _ _
 |i+2=>simp at hc
end
section
open Go Go.RowKit
set_option maxRecDepth 100000
def w2(h l:Nat):AV:=.agg [.int .u64 (h:Int),.int .u64 (l:Int)]
theorem ceP{h l:Nat}(hl:l<18446744073709551616)(h0:0<h):zY (h*18446744073709551616+l)=64+zY h:=by
 have e:(18446744073709551616:Nat)=2^64:=by decide
 rw[agD (n:=h*18446744073709551616+l) (k:=64) (m:=h) (by rw[←e];exact aZ (Nat.le_mul_of_pos_left _ h0) (fX _ _)) (by rw[←e,dS,Nat.add_mul_div_right _ _ aC,bW hl,bZ])]
def w3(h m l:Nat):AV:=.agg [.int .u64 (h:Int),.int .u64 (m:Int),.int .u64 (l:Int)]
theorem zr149:ZR 149 [.int .u64 0,.int .u64 0]:=ZRi zeroValue149
theorem pl149:PL 149 [(0,1),(1,1)]:=PLi U149
theorem zr247:ZR 247 [.int .u64 0,.int .u64 0,.int .u64 0]:=ZRi zeroValue247
theorem pl247:PL 247 [(0,1),(1,1),(2,1)]:=PLi U247
theorem bpC(h l:Nat)(hh:h<18446744073709551616)(hl:l<18446744073709551616):Fn 185 [w2 h l] (.int .i64 (zY (h*18446744073709551616+l):Int)):=by
 intro H;have hb:=(yQ (n:=h) (k:=64)).2 (dE hh aC);refine .of_body func185 rfl ntmps185 results185 rfl ?_;iterate 9 refine AX ?_
 refine .p rfl (zA U149 rfl Z22 (tm rfl)) ?_;iterate 4 refine AM ?_
 refine .cx rfl (λhc5=>?_) (λhc5=>?_)
 ·iterate 2 refine AX ?_
  refine .p rfl (zA U149 rfl Z22 (tm rfl)) ?_;refine AX ?_;refine .cl rfl C182 (evs1 rfl) (len64A _ aB _) ?_;iterate 7 refine AX ?_
  refine⟨?_,rfl⟩;rw[ceP hl aA];simp only[yD];congr 1
 iterate 4 refine AX ?_
 refine .p rfl (zA U149 rfl Z22 (tm rfl)) ?_;refine AX ?_;refine .cl rfl C182 (evs1 rfl) (len64A _ aB _) ?_;iterate 5 refine AX ?_
 refine⟨?_,rfl⟩;rw[show h=0 by omega,dV,bZ];rfl
theorem awV(h m l:Nat):Fn 241 [w3 h m l] (w2 m l):=by
 intro H;refine .of_body func241 rfl ntmps241 results241 rfl ?_;iterate 3 refine AX ?_
 refine .al zr149 (λb2 hb2=>?_);iterate 4 refine AX ?_
 refine .p rfl (zA U247 rfl Z22 (tm rfl)) ?_;refine AX ?_;refine .p rfl (zA U247 rfl Z22 (tm rfl)) ?_;refine AX ?_;refine .p rfl (zX zr149 pl149 (.cons (tm rfl) (.inl rfl) (.cons (tm rfl) (.inl rfl) .nil)) rfl) ?_;iterate 3 refine AX ?_
 refine .frz (t:=2) rfl (hb2) ?_;iterate 2 refine AX ?_
 exact⟨rfl,rfl⟩
theorem aoT(x y:Nat)(hx:x<18446744073709551616)(hy:y<18446744073709551616)(H:Heap):ACall prog 193 [.int .u64 (x:Int),.int .u64 (y:Int)] H (λz H'=>z=w2 (x*y/18446744073709551616) (x*y%18446744073709551616)∧H'=H):=by
 refine .of_body func193 rfl ntmps193 results193 rfl ?_;iterate 2 refine AX ?_
 refine .al zr149 (λb4 hb4=>?_);iterate 6 refine AX ?_
 refine .cl rfl call245 (evs2 rfl rfl) (mul64A _ _ aB aB _) ?_;iterate 11 refine AX ?_
 refine .p rfl (zX zr149 pl149 (.cons (tm rfl) (.inl rfl) (.cons (tm rfl) (.inl rfl) .nil)) rfl) ?_;iterate 3 refine AX ?_
 refine .frz (t:=4) rfl (hb4) ?_;iterate 2 refine AX ?_
 exact⟨rfl,rfl⟩
end
def M1:Nat:=18446744073709551616
def M2:Nat:=340282366920938463463374607431768211456
def M3:Nat:=6277101735386680763835789423207666416102355444464034512896
theorem agX:M1=2^64:=by decide
theorem blH:M2=M1*M1:=by decide+kernel
theorem cnQ:M3=M1*M2:=by decide+kernel
def u2(v:Nat):AV:=w2 (v/M1) (v%M1)
def u3(v:Nat):AV:=w3 (v/M2) (v/M1%M1) (v%M1)
theorem brY(h:v<M2):v/M1<M1:=by
 rw[bR aC,←blH];exact h
theorem agR(v:Nat):v%M1<M1:=bU _ aC
theorem bnV(h:v<M3):v/M2<M1:=by
 rw[bR aC,←cnQ];exact h
theorem cmJ(hy:y<2^n)(hn:n≤64):(x*2^n%M1)|||y=x*2^n%M1+y:=by
 have e:x*2^n%M1=x%2^(64-n)*2^n:=by
  rw[agX,show(64:Nat)=(64-n)+n by omega,bI,fL];congr 2;congr 1;omega
 rw[e];exact akM hy
theorem chH{l:Nat}(hn:n≤64):l*2^n/M1=l/2^(64-n):=by
 rw[agX,show(64:Nat)=(64-n)+n by omega,bI,eP _ _ (bO aC)];congr 2;omega
theorem ckN(v:Nat)(hn:n≤64):v%M1/2^(64-n)<2^n:=by
 rw[bR (bO aC),←bI,show n+(64-n)=64 by omega,←agX];exact agR v
theorem clX(hn:n≤64):v*2^n%M2/M1=(v/M1*2^n%M1+v%M1/2^(64-n)):=by
 have h1:=cH v M1;have h2:v*2^n=M1*(v/M1*2^n)+v%M1*2^n:=by
  rw[←bH,←bT,h1]
 rw[blH,Nat.mod_mul_right_div_self,h2,fK aC,chH hn];have h3:v%M1/2^(64-n)<2^n:=by
  rw[bR (bO aC),←bI,show n+(64-n)=64 by omega,←agX];exact agR v
 have e:v/M1*2^n%M1=v/M1%2^(64-n)*2^n:=by
  rw[agX,show(64:Nat)=(64-n)+n by omega,bI,fL];congr 2;congr 1;omega
 have h4:v/M1%2^(64-n)*2^n+v%M1/2^(64-n)<M1:=by
  have h5:=bU (v/M1) (bO aC:0<2^(64-n));have h6:(v/M1%2^(64-n)+1)*2^n≤2^(64-n)*2^n:=bC _ h5;rw[←bI,show 64-n+n=64 by omega,←agX,bT,cK]at h6;omega
 rw[Nat.add_mod,e,bE (aU (Nat.le_add_left _ _) h4),bE h4]
theorem bwY(v k:Nat):v*k%M1=v%M1*k%M1:=by
 conv=>lhs;rw[Nat.mul_mod]
 conv=>rhs;rw[Nat.mul_mod,Nat.mod_mod]
theorem cfO(v n:Nat):v*2^n%M2%M1=v%M1*2^n%M1:=by
 rw[blH,Nat.mod_mul_right_mod,bwY]
theorem byW(hk:k≤64):x/2^k%M1=x%M1/2^k+x/M1*2^(64-k)%M1:=by
 have e:M1=2^k*2^(64-k):=by rw[agX,←bI,show k+(64-k)=64 by omega]
 have h1:x/2^k=x%M1/2^k+x/M1*2^(64-k):=by
  have h2:x=x%M1+2^k*(x/M1*2^(64-k)):=by
   have h3:=gE x M1;rw[bK (x/M1),←bH,←e];exact h3.symm
  conv=>lhs;rw[h2]
  rw[gG _ _ (bO aC)]
 have h4:x%M1/2^k<2^(64-k):=by
  rw[bR (bO aC),←bI,show 64-k+k=64 by omega,←agX];exact agR x
 have e2:x/M1*2^(64-k)%M1=x/M1%2^k*2^(64-k):=by
  rw[e,fL]
 have h5:x/M1%2^k*2^(64-k)+x%M1/2^k<M1:=by
  have h6:=bU (x/M1) (bO aC:0<2^k);have h7:(x/M1%2^k+1)*2^(64-k)≤2^k*2^(64-k):=bC _ h6;rw[←e,bT,cK]at h7;omega
 rw[h1,Nat.add_mod,e2,bE (aU (Nat.le_add_left _ _) h5),dS,bE h5]
theorem bwL(hx:x<M1)(hk:k≤64):(x/2^k|||y*2^(64-k)%M1)=x/2^k+y*2^(64-k)%M1:=by
 rw[Nat.or_comm,cmJ (by
   rw[bR (bO aC),←bI,show 64-k+k=64 by omega,←agX];exact hx) aA,dS]
theorem boJ(v:Nat):v/M1/M1=v/M2:=by rw[bY,←blH]
theorem ckL(v k:Nat):v/2^k/M2=v/M2/2^k:=by rw[bY,bK,←bY]
theorem ceA(hk:k≤64):v/2^k/M1%M1=(v/M1%M1/2^k|||v/M2*2^(64-k)%M1):=by
 rw[bwL (agR _) hk,bY,bK,←bY,byW hk,boJ]
theorem ckK(hk:k≤64):v/2^k%M1=(v%M1/2^k|||v/M1%M1*2^(64-k)%M1):=by
 rw[bwL (agR _) hk,byW hk,bwY (v/M1)]
theorem bbE(v a b:Nat):v%2^(a+b)≠0↔(v%2^a≠0∨v/2^a%2^b≠0):=by
 rw[bI,Nat.mod_mul];have h:0<2^a:=bO aC;constructor
 ·grind
 rintro(q|q) h1
 ·omega
 have:0<2^a*(v/2^a%2^b):=fP h (eI q);omega
theorem coF(hk:k≤64):v%M1%2^k=v%2^k:=Nat.mod_mod_of_dvd _ (by rw[agX];exact Nat.pow_dvd_pow 2 hk)
theorem bhL(h:v<M3):(((v/M2:Nat):Int)=0∧((v/M1%M1:Nat):Int)=0∧((v%M1:Nat):Int)=0)↔v=0:=by
 constructor
 ·rintro⟨h1,h2,h3⟩;have e1:=gE v M1;have e2:=gE (v/M1) M1;rw[boJ]at e2;have h1':v/M2=0:=by omega
  have h2':v/M1%M1=0:=by omega
  have h3':v%M1=0:=by omega
  rw[h1',h2']at e2;simp at e2;rw[←e2,h3']at e1;simpa using e1.symm
 rintro rfl;decide
theorem cnD(h:v<M3):v/M1/M2=0∧v/M1/M1%M1=v/M2:=by
 have h1:v/M1<M2:=by rw[bR aC,bK,←cnQ];exact h
 exact⟨bW h1,by rw[boJ,bE (bnV h)]⟩
theorem lost64(v j:Nat):v%2^(64*(j+1))≠0↔(v%2^(64*j)≠0∨v/2^(64*j)%M1≠0):=by
 rw[cA,fG,bbE,agX]
theorem ccX{j:Nat}(h:decide (v%2^(64*j)≠0)=true):true=decide (v%2^(64*(j+1))≠0):=(aY ((lost64 v j).2 (.inl (of_decide_eq_true h)))).symm
theorem ccY{j:Nat}(h:decide (v%2^(64*j)≠0)=false):decide (((0:Nat):Int)<((v/2^(64*j)%M1:Nat):Int))=decide (v%2^(64*(j+1))≠0):=by
 have h1:=of_decide_eq_false h;refine aT.2 ⟨λq=>(lost64 v j).2 (.inr aA),λq=>?_⟩;rcases(lost64 v j).1 q with q|q
 ·grind
 omega
theorem cjL(hn:a≤n)(h:decide (v%2^a≠0)=true):true=decide (v%2^n≠0):=by
 have:=(bbE v a (n-a)).2 (.inl (of_decide_eq_true h));rw[show a+(n-a)=n by omega]at this;exact(aY this).symm
theorem bzV(x k:Nat):x&&&(1*2^k-1)=x%2^k:=by rw[cK];exact dC x k
theorem cjM(hn:a≤n)(hk:n-a≤64)(h:decide (v%2^a≠0)=false):decide (((0:Nat):Int)<((v/2^a%M1&&&(1*2^(n-a)-1):Nat):Int))=decide (v%2^n≠0):=by
 have h1:=of_decide_eq_false h;have h2:=bbE v a (n-a);rw[show a+(n-a)=n by omega]at h2;rw[bzV,coF hk];refine aT.2 ⟨λq=>h2.2 (.inr aA),λq=>?_⟩;rcases h2.1 q with q|q
 ·grind
 omega
theorem asZ(h:k<64):1*2^k<18446744073709551616:=by
 rw[cK,show(18446744073709551616:Nat)=2^64 by decide];exact eC aC h
theorem brB(k:Nat):1≤1*2^k:=by rw[cK];exact bO aC
theorem amZ(hx:x<M1):u2 x= .agg [.int .u64 0,.int .u64 (x:Int)]:=by
 unfold u2 w2;rw[bW hx,bE hx];rfl
theorem clP(hv:v<M2):u3 v= .agg [.int .u64 0,.int .u64 ((v/M1:Nat):Int),.int .u64 ((v%M1:Nat):Int)]:=by
 unfold u3 w3;rw[bW hv,bE (brY hv)];rfl
theorem cgN(v:Nat):w2 (v/M1%M1) (v%M1)=u2 (v%M2):=by
 unfold u2;rw[blH,Nat.mod_mul_right_div_self,Nat.mod_mul_right_mod]
theorem cnM{a b:Nat}:(a/M1+b/M1+(a%M1+b%M1)/M1)%M1=(a+b)%M2/M1:=by unfold M1 M2;omega
theorem cnL{a b:Nat}:(a%M1+b%M1)%M1=(a+b)%M2%M1:=by unfold M1 M2;omega
theorem cfE{a b:Nat}:decide (((0:Nat):Int)<(((a/M1+b/M1+(a%M1+b%M1)/M1)/M1:Nat):Int))=decide (M2≤a+b):=by
 refine aT.2 ?_;unfold M1 M2;omega
theorem coJ{b:Nat}:(a%M1+b%M1)/M1≤1:=by unfold M1;omega
theorem asQ(a x:Nat):a*x/M2=a/M1*x/M1+(a%M1*x/M1+a/M1*x%M1)/M1∧a*x/M1%M1=(a%M1*x/M1+a/M1*x%M1)%M1∧a*x%M1=a%M1*x%M1:=by
 have e:a*x=M1*(a/M1*x)+a%M1*x:=by
  conv=>lhs;rw[←cH a M1]
  rw[bT,bH]
 rw[e];generalize a/M1*x=p;generalize a%M1*x=q;unfold M1 M2;refine⟨?_,?_,?_⟩<;>omega
section
open Go Go.RowKit
set_option maxRecDepth 100000
theorem eqIn3(d:Nat)(a b c a2 b2 c2:Int)(w:World):(Op.equalIn (d+2) 247 (.agg #[.int .u64 a,.int .u64 b,.int .u64 c]) (.agg #[.int .u64 a2,.int .u64 b2,.int .u64 c2])).run prog w= .ok (decide (a=a2∧b=b2∧c=c2)) w:=by
 have u3:=U22;have a3:=G22;have z3:=Z22;have hS:prog.underlying 247=some (.struct (prog.fieldsOf 247)):=by kernel_rfl
 have hp:prog.stoodInHeld 247=false:=by kernel_rfl
 rw[run_equalIn_agg w (d+1) 247 _ _ hS hp];simp only[Program.fieldsOf,U247]
 go_simp
 by_cases h1:a=a2<;>by_cases h2:b=b2<;>by_cases h3:c=c2<;>simp[h1,h2,h3]
theorem eq3(a b c a2 b2 c2:Int):avV prog 247 [.int .u64 a,.int .u64 b,.int .u64 c] [.int .u64 a2,.int .u64 b2,.int .u64 c2] (decide (a=a2∧b=b2∧c=c2)):=λg xs ys w h k=>by
 rw[h.plain [.int .u64 a,.int .u64 b,.int .u64 c] rfl,k.plain [.int .u64 a2,.int .u64 b2,.int .u64 c2] rfl];exact eqIn3 9998 a b c a2 b2 c2 w
section
variable{P:Program}{env:Env}{dst:Option Tmp}{ty:TypeId}{pos:String}{af:Array Edge}{gd:Option (Nat×Bool)}
theorem APure.as{op:Oper}{a b:AV}(h:a=b)(p:APure P op env a):APure P op env b:=h▸p
end
theorem aiB(v:Nat)(n:Nat)(hn:n<64)(q:Int)(hq:q=(n:Int)):Fn 187 [u2 v,.int .i64 q] (u2 (v*2^n%M2)):=by
 intro H;subst hq;have hh:=agR v;have hb1:v%M1/2^(64-n)<18446744073709551616:=aU (cY _ _) (agR v);have hb2:v/M1*2^n%18446744073709551616<18446744073709551616:=bU _ aC;have hor:(v/M1*2^n%18446744073709551616|||v%M1/2^(64-n))=v/M1*2^n%M1+v%M1/2^(64-n):=cmJ (ckN v (cT hn)) (cT hn);refine .of_body func187 rfl ntmps187 results187 rfl ?_;iterate 3 refine AX ?_
 refine .al zr149 (λb4 hb4=>?_);iterate 11 refine AX ?_
 rw[show bfM (n:Int) 0=(n:Int) by simp only[bfM];split<;>omega];iterate 5 refine AX ?_
 refine .cond_false (tm rfl) (by exact bB aA) ?_;iterate 3 refine AX ?_
 refine .draw [(0,true),(1,true),(2,true),(3,true),(4,true),(5,true),(6,true),(7,true),(8,true),(9,true),(10,true),(11,true),(12,true),(13,true),(14,true),(15,false)] rfl aE ?_;refine .p rfl rfl (zA U149 rfl Z22 (tm rfl)) ?_;iterate 3 refine AX ?_
 refine .p rfl rfl (zA U149 rfl Z22 (tm rfl)) ?_;iterate 2 refine AX ?_
 refine .p rfl rfl (.as (b:=.int .i64 ((64-n:Nat):Int)) (by congr 1;omega) (adK zH (tm rfl) aA)) ?_;iterate 2 refine AX ?_
 refine .p rfl rfl (zA U149 rfl Z22 (tm rfl)) ?_;iterate 3 refine AX ?_
 refine .p rfl rfl (zX zr149 pl149 (.cons (tm rfl) (.inl rfl) (.cons (tm rfl) (.inl rfl) .nil)) rfl) (.s0 rfl (zN Z149 (tm rfl) (tm rfl) rfl rfl (.inr ⟨_,rfl⟩) (oS _ _ _) (lB rfl)) ?_);rintro _ _ ⟨rfl,hH⟩;obtain rfl:=hH.symm;try first|rw[sS]|rw[sU aB]
 iterate 2 refine AX ?_
 refine .frz (t:=4) rfl (hb4) ?_;iterate 2 refine AX ?_
 refine⟨?_,rfl⟩;simp only[yD,u2,w2];rw[clX (cT hn),cfO,←hor];rfl
def cgX(v n b2 b4:Nat)(H:Heap):Nat→Env→Heap→Prop:=λk env H1=>∃j:Nat,64*j≤n∧env=[(1,.int .i64 ((n-64*j:Nat):Int)),(2,.ptr (some ⟨b2,0,none⟩)),(4,.ptr (some ⟨b4,0,none⟩)),(6,.bool (decide (v%2^(64*j)≠0)))]∧H1=(H.set b2 (.box 247 [.int .u64 (((v/2^(64*j))/M2:Nat):Int),.int .u64 (((v/2^(64*j))/M1%M1:Nat):Int),.int .u64 (((v/2^(64*j))%M1:Nat):Int)])).set b4 (.box 247 [.int .u64 0,.int .u64 0,.int .u64 0])∧k=n-64*j
theorem bhG(v:Nat)(hv:v<M3)(n:Nat)(hn:n≤1000000000)(q:Int)(hq:q=(n:Int)):Fn 240 [u3 v,.int .i64 q] (.tuple [u3 (v/2^n),.bool (decide (v%2^n≠0))]):=by
 intro H;subst hq;refine .of_body func240 rfl ntmps240 results240 rfl ?_;iterate 2 refine AX ?_
 refine .s rfl (anD (tm rfl) (.inr ⟨_,rfl⟩)) ?_;rintro _ _ ⟨b2,hb2,rfl,hH⟩;obtain rfl:=hH.symm;refine .al zr247 (λb4 hb4=>?_);have hn2_4:=Heap.ne_of (oS _ _ _) hb4;iterate 11 refine AX ?_
 rw[show bfM (n:Int) 0=(n:Int) by simp only[bfM];split<;>omega];iterate 6 refine AX ?_
 rw[show(u3 v).cells=[.int .u64 ((v/2^(64*0)/M2:Nat):Int),.int .u64 ((v/2^(64*0)/M1%M1:Nat):Int),.int .u64 ((v/2^(64*0)%M1:Nat):Int)] by rw[show v/2^(64*0)=v by simp];rfl];refine .loopW (cgX v n b2 b4 H) (n) ⟨0,by omega,rfl,rfl,rfl⟩ (zI rfl (zI rfl (zI rfl (zM rfl (by simp[Nat.mod_one]) yJ)))) (hRa _) ?_;rintro _ _ _ ⟨j,hj,rfl,rfl,hk⟩;have hvj:(v/2^(64*j))<M3:=aU (cY _ _) hv;refine AX ?_;refine .seqTo 15 (.bool (decide ((64:Int)≤((n-64*j:Nat):Int))&& !decide ((v/2^(64*j))=0))) [1,2,4,6] ?_ ?_
 ·iterate 4 refine AX ?_
  refine zC (t:=11) rfl (λhg11=>?_) (λhg11=>?_)
  ·have hh11:=hg11;try simp only[aO]at hh11
   refine .gs rfl rfl rfl aB (abX isAgg247 Z247 (tm rfl) ((oN _ _ aB).trans (oS _ _ _)) (lB rfl)) ?_;rintro _ _ ⟨rfl,hH⟩;obtain rfl:=hH.symm;refine .gp rfl rfl rfl aB (zX zr247 pl247 .nil rfl) ?_;refine .gp rfl rfl rfl aB (bwC eqGuardType247 (tm rfl) (tm rfl) (eq3 _ _ _ _ _ _)) ?_;iterate 2 refine AX ?_
   exact⟨rfl,zL rfl (by(rw[show decide ((64:Int)≤((n-64*j:Nat):Int))=true from hg11,Bool.true_and];congr 1;exact aT.2 (bhL hvj))) sX,rfl⟩
  have hh11:=hg11;try simp only[aM,dO]at hh11
  iterate 5 refine AX ?_
  exact⟨rfl,zL rfl (by(rw[show decide ((64:Int)≤((n-64*j:Nat):Int))=false from hg11];rfl)) sX,rfl⟩
 refine .sub [(15,_),(1,_),(2,_),(4,_),(6,_)] sX ?_;refine .cx rfl (λhc15=>?_) (λhc15=>?_)
 ·simp only[bL,dX,aO,aM]at hc15;iterate 3 refine AX ?_
  refine .seqTo 6 (.bool (decide (v%2^(64*(j+1))≠0))) [1,2,4] ?_ ?_
  ·iterate 3 refine AX ?_
   refine zC (t:=17) rfl (λhg17=>?_) (λhg17=>?_)
   ·have hh17:=hg17;try simp only[aO,ne_eq]at hh17
    iterate 6 refine AX ?_
    exact⟨rfl,zL rfl (by(have q:=ccX hg17;exact q)) sX,rfl⟩
   have hh17:=hg17;try simp only[aM,ne_eq,dY]at hh17
   refine .gp rfl rfl rfl aB (zD U247 rfl Z22 (tm rfl)) (.gs rfl rfl rfl aB (yC G22 (tm rfl) ((oN _ _ aB).trans (oS _ _ _)) rfl) ?_);rintro _ _ ⟨rfl,hH⟩;obtain rfl:=hH.symm;iterate 4 refine AM ?_
   exact⟨rfl,zL rfl (by(have q:=ccY hg17;exact q)) sX,rfl⟩
  refine .sub [(6,_),(1,_),(2,_),(4,_)] sX ?_;iterate 2 refine AX ?_
  refine .p rfl (zD U247 rfl Z22 (tm rfl)) ?_;refine AX ?_;refine .p rfl (zD U247 rfl Z22 (tm rfl)) ?_;refine AX ?_;refine .p rfl (zX zr247 pl247 (.cons (zR 0) (.inl rfl) (.cons (tm rfl) (.inl rfl) (.cons (tm rfl) (.inl rfl) .nil))) rfl) ?_;iterate 5 refine AX ?_
  refine .p rfl (.as (b:=.int .i64 ((n-64*(j+1):Nat):Int)) (by congr 1;omega) (adK (tm rfl) zH aA)) ?_;iterate 4 refine AX ?_
  have hd64:=cnD hvj;have hvn:v/2^(64*(j+1))=(v/2^(64*j))/M1:=by rw[agX,bY,←bI];congr 1
  refine Round.mk ⟨j+1,by omega,rfl,rfl,rfl⟩ sX (by rw[hvn,hd64.1,hd64.2];exact hRa _) aA
 simp only[bX,dF,aO,aM]at hc15;iterate 9 refine AX ?_
 refine .p rfl (zX zr247 pl247 .nil rfl) ?_;refine .p rfl (qC eqGuardType247 (tm rfl) (tm rfl) (eq3 _ _ _ _ _ _)) ?_;iterate 2 refine AX ?_
 refine .cx rfl (λhc31=>?_) (λhc31=>?_)
 ·iterate 8 refine AX ?_
  refine .frz (t:=4) rfl (fS hb4 _) ?_;refine .dropb (hb2) ?_;iterate 3 refine AX ?_
  refine⟨?_,rfl⟩;have hv0:(v/2^(64*j))=0:=(bhL hvj).1 (by simpa using hc31);have hlt:v<2^(64*j):=by rcases Nat.div_eq_zero_iff.1 hv0 with h|h;exact absurd h (Nat.ne_of_gt (bO aC));exact h
  have hpn:v<2^n:=bM hlt (aW aC hj);rw[bE hlt,bE hpn,bW hpn,hv0];rfl
 have hv1:¬(v/2^(64*j))=0:=λh=>hc31 ((bhL hvj).2 h);have hk64:n-64*j<64:=by omega
 clear hv1;have hr1:(v/2^(64*j))%M1<18446744073709551616:=agR _;have hr2:(v/2^(64*j))/M1%M1<18446744073709551616:=agR _;have hr3:(v/2^(64*j))/M2<18446744073709551616:=bnV hvj;have hr4:(v/2^(64*j))%M1/2^(n-64*j)<18446744073709551616:=aU (cY _ _) hr1;have hr5:(v/2^(64*j))/M1%M1/2^(n-64*j)<18446744073709551616:=aU (cY _ _) hr2;have hr6:1*2^(n-64*j)-1<18446744073709551616:=aU (Nat.sub_le _ _) (asZ hk64);rw[Heap.set_comm hn2_4];refine .frz (t:=2) rfl ((oN _ _ hn2_4).trans hb2) ?_;have hb4:=(oN H _ hn2_4.symm).symm.trans hb4;iterate 2 refine AX ?_
 refine .seqTo 6 (.bool (decide (v%2^n≠0))) [1,2,4] ?_ ?_
 ·refine .draw [(0,true),(1,true),(2,true),(3,true),(4,true),(5,true),(6,true),(7,true),(8,true),(9,true),(10,true)] rfl aE ?_;iterate 2 refine AX ?_
  refine avM (t:=35) rfl (λhg35=>?_) (λhg35=>?_)
  ·have hh35:=hg35;try simp only[aO,ne_eq]at hh35
   iterate 10 refine AX ?_
   exact⟨rfl,zL rfl (by(have q:=cjL hj hg35;exact q)) sX,rfl⟩
  have hh35:=hg35;try simp only[aM,ne_eq,dY]at hh35
  refine .gp rfl rfl rfl rfl aB (zA U247 rfl Z22 (tm rfl)) ?_;iterate 2 refine AX ?_
  refine .gp rfl rfl rfl rfl aB (qB (zR 1) (tm rfl) aA (by exact asZ hk64)) (.gp rfl rfl rfl rfl aB (abE (tm rfl) (zR 1) (brB _) (by(exact bM (asZ hk64) aC))) (.gp rfl rfl rfl rfl aB (aiL (tm rfl) (tm rfl) aB aB) ?_));refine AM ?_;iterate 3 refine AX ?_
  exact⟨rfl,zL rfl (by(have q:=cjM hj aA hg35;exact q)) sX,rfl⟩
 refine .sub [(6,_),(1,_),(2,_),(4,_)] sX ?_;refine AX ?_;refine .draw [(0,true),(1,true),(2,true),(3,true),(4,true),(5,true),(6,true),(7,true),(8,true),(9,true),(10,true),(11,true),(12,true),(13,true),(14,true),(15,true),(16,true),(17,true),(18,true),(19,true),(20,true),(21,true),(22,true),(23,true),(24,true),(25,true),(26,false),(27,true)] rfl aE ?_;refine .p rfl rfl (zA U247 rfl Z22 (tm rfl)) ?_;iterate 3 refine AX ?_
 refine .p rfl rfl (zA U247 rfl Z22 (tm rfl)) ?_;iterate 3 refine AX ?_
 refine .p rfl rfl (zA U247 rfl Z22 (tm rfl)) ?_;iterate 2 refine AX ?_
 refine .p rfl rfl (.as (b:=.int .i64 ((64-(n-64*j):Nat):Int)) (by congr 1;omega) (adK zH (tm rfl) aA)) ?_;iterate 2 refine AX ?_
 refine .p rfl rfl (zA U247 rfl Z22 (tm rfl)) ?_;iterate 3 refine AX ?_
 refine .p rfl rfl (zA U247 rfl Z22 (tm rfl)) ?_;iterate 2 refine AX ?_
 refine .p rfl rfl (.as (b:=.int .i64 ((64-(n-64*j):Nat):Int)) (by congr 1;omega) (adK zH (tm rfl) aA)) ?_;iterate 2 refine AX ?_
 refine .p rfl rfl (zX zr247 pl247 (.cons (tm rfl) (.inl rfl) (.cons (tm rfl) (.inl rfl) (.cons (tm rfl) (.inl rfl) .nil))) rfl) ?_;refine AX ?_;refine .s0 rfl (zN Z247 (tm rfl) (tm rfl) rfl rfl (.inr ⟨_,rfl⟩) (oS _ _ _) (lB rfl)) ?_;rintro _ _ ⟨rfl,hH⟩;obtain rfl:=hH.symm;try first|rw[sS]|rw[sU aB]
 iterate 3 refine AX ?_
 refine .frz (t:=4) rfl (hb4) ?_;iterate 2 refine AX ?_
 refine⟨?_,rfl⟩;have hvn2:v/2^n=(v/2^(64*j))/2^(n-64*j):=by rw[bY,←bI,show 64*j+(n-64*j)=n by omega]
 rw[hvn2];unfold u3;rw[ckL (v/2^(64*j)) (n-64*j),ceA (v:=(v/2^(64*j))) (k:=n-64*j) aA,ckK (v:=(v/2^(64*j))) (k:=n-64*j) aA];rfl
end
section
open Go Go.RowKit
set_option maxRecDepth 100000
section
variable{P:Program}{n:Nat}{ops:Array Oper}{Q:Exit→Env→Heap→Prop}{l:List Oper}{env:Env}{H:Heap}{ty:TypeId}{pos:String}{af:Array Edge}
theorem AList.ext{d:Tmp}{f:FuncId}{e:Array Value→Sem Value}{os:Array Operand}{xs:List AV}{ts:Array TypeId}{r:AV}(hd:Nat.blt d n=true)(he:IsExt P f e)(ha:Evs env os.toList xs)
  (h:∀g vs w,RelVs g xs vs→∃v,(e vs.toArray).run P w= .ok v w∧RelV g r v)(k:AList P n ops Q l ((d,r)::env) H):AList P n ops Q (⟨some d,.call {callee:=.value (.func f),args:=os,argTypes:=ts},ty,pos,af,none⟩::l) env H:=by
 have q:=cbB (H:=H) (dst:=some d) (ty:=ty) (pos:=pos) (af:=af) (gd:=none) (ts:=ts) he ha h;refine .s hd q ?_;rintro _ _ ⟨rfl,hH⟩;obtain rfl:=hH.symm;exact k
end
theorem bnJ(hx:x<M1)(hy:y<M1):x*y/M1+1<M1:=by
 have h:x*y≤18446744073709551615*18446744073709551615:=cS (Nat.le_sub_one_of_lt hx) (Nat.le_sub_one_of_lt hy);have h2:x*y/M1≤18446744073709551615*18446744073709551615/M1:=Nat.div_le_div_right h;have h3:18446744073709551615*18446744073709551615/M1+1<M1:=by decide+kernel
 exact aU (Nat.add_le_add_right h2 1) h3
theorem ceM(hx:x+1<M1)(hy:y<M1):(x+y)/M1≤1:=by unfold M1 at *;omega
theorem apT:∀g vs w,RelVs g [.int .u64 (x:Int),.int .u64 (y:Int),.int .u64 ((0:Nat):Int)] vs→∃v,(add64Entry vs.toArray).run prog w= .ok v w∧RelV g (.tuple [.int .u64 (((x+y)%18446744073709551616:Nat):Int),.int .u64 (((x+y)/18446744073709551616:Nat):Int)]) v:=by
 have:=@bfY x y 0 aC;rw[cB]at this;exact this
theorem aoS(v:Nat)(hv:v<M2)(n:Nat)(hn:n≤1000000000)(q:Int)(hq:q=(n:Int)):Fn 188 [u2 v,.int .i64 q] (.tuple [u2 (v/2^n),.bool (decide (v%2^n≠0))]):=by
 intro H;refine .of_body func188 rfl ntmps188 results188 rfl ?_;iterate 3 refine AX ?_
 refine .al zr149 (λb4 hb4=>?_);iterate 5 refine AX ?_
 refine .p rfl (zA U149 rfl Z22 (tm rfl)) ?_;refine AX ?_;refine .p rfl (zA U149 rfl Z22 (tm rfl)) ?_;refine AX ?_;refine .p rfl (zX zr247 pl247 (.cons (zR 0) (.inl rfl) (.cons (tm rfl) (.inl rfl) (.cons (tm rfl) (.inl rfl) .nil))) rfl) ?_;refine AX ?_;refine .cl rfl call240 (evs2 rfl rfl) ((by have:=bhG v (cL hv aE) n hn q hq;rw[clP hv]at this;exact this _)) ?_;iterate 3 refine AX ?_
 refine .al zr247 (λb6 hb6=>?_);have hn4_6:=Heap.ne_of (oS _ _ _) hb6;iterate 4 refine AX ?_
 refine .frz (t:=6) rfl (hb6) ?_;iterate 3 refine AX ?_
 refine .cl rfl call241 (evs1 rfl) (awV _ _ _ _) ?_;iterate 5 refine AX ?_
 refine .frz (t:=4) rfl (hb4) ?_;iterate 2 refine AX ?_
 refine⟨?_,rfl⟩;simp only[yD];rw[cgN,bE (aU (cY _ _) hv)];rfl
theorem aoU(a b:Nat)(ha:a<M2)(hb:b<M2):Fn 243 [u2 a,u2 b] (.tuple [u2 ((a+b)%M2),.bool (decide (M2≤a+b))]):=by
 intro H;have ha1:=brY ha;have hb1:=brY hb;have ha2:=agR a;have hb2:=agR b;have hc:(a%M1+b%M1)/18446744073709551616≤1:=coJ;generalize hce:(a%M1+b%M1)/18446744073709551616=c at hc;refine .of_body func243 rfl ntmps243 results243 rfl ?_;iterate 4 refine AX ?_
 refine .al zr149 (λb4 hb4=>?_);iterate 5 refine AX ?_
 refine .p rfl (zA U149 rfl Z22 (tm rfl)) ?_;refine AX ?_;refine .p rfl (zA U149 rfl Z22 (tm rfl)) ?_;refine AX ?_;refine .ext rfl ext291 (.cons (tm rfl) (.cons (tm rfl) (.cons (zR 0) .nil))) (apT) ?_;iterate 8 refine AX ?_
 rw[hce];refine AX ?_;refine .p rfl (zA U149 rfl Z22 (tm rfl)) ?_;refine AX ?_;refine .p rfl (zA U149 rfl Z22 (tm rfl)) ?_;iterate 2 refine AX ?_
 refine .ext rfl ext291 (evs3 rfl rfl rfl) (bfY (x:=a/M1) (y:=b/M1) (c:=c) hc) ?_;iterate 11 refine AX ?_
 refine .p rfl (zX zr149 pl149 (.cons (tm rfl) (.inl rfl) (.cons (tm rfl) (.inl rfl) .nil)) rfl) ?_;refine AX ?_;refine AM ?_;iterate 4 refine AX ?_
 refine .frz (t:=4) rfl (hb4) ?_;iterate 2 refine AX ?_
 refine⟨?_,rfl⟩;have e1:=@cfE a b;have e2:=@cnM a b;have e3:=@cnL a b;rw[show(a%M1+b%M1)/M1=c from hce]at e1 e2;rw[←e1];unfold u2 w2;rw[←e2,←e3];rfl
theorem bcU(a x:Nat)(ha:a<M2)(hx:x<M1):Fn 265 [u2 a,.int .u64 (x:Int)] (u3 (a*x)):=by
 intro H;have ha1:=brY ha;have ha2:=agR a;have hm1:=bnJ ha1 hx;have hm2:=bnJ ha2 hx;have hm3:=agR (a/M1*x);have hcl:=ceM hm2 hm3;have hfit:a/M1*x/18446744073709551616+(a%M1*x/18446744073709551616+a/M1*x%18446744073709551616)/18446744073709551616<18446744073709551616:=aU (Nat.add_le_add_left hcl _) hm1;refine .of_body func265 rfl ntmps265 results265 rfl ?_;iterate 3 refine AX ?_
 refine .al zr247 (λb4 hb4=>?_);iterate 3 refine AX ?_
 refine .draw2 [(0,true),(1,true),(2,true),(3,true),(4,true),(5,true),(6,true),(7,true)] 8 9 [(9,false),(10,false),(11,false)] [(8,false),(10,false),(11,false)] rfl aE ?_;refine .p rfl rfl (zA U149 rfl Z22 (tm rfl)) ?_;iterate 2 refine AX ?_
 refine .f rfl rfl (λ_=>zB C193 (evs2 rfl rfl) (aoT _ _ aB aB _)) ?_;refine .p rfl rfl (zA U149 rfl Z22 (tm rfl)) ?_;iterate 2 refine AX ?_
 refine .f rfl rfl (λ_=>zB C193 (evs2 rfl rfl) (aoT _ _ aB aB _)) ?_;refine AX ?_;refine⟨?_,?_⟩
 ·refine XTwo.s rfl rfl (ahU zr149) ?_;rintro _ _ ⟨b5,hb5,rfl,hH⟩;obtain rfl:=hH.symm;have hn4_5:=Heap.ne_of (oS _ _ _) hb5;refine .s rfl rfl (ahU zr149) ?_;rintro _ _ ⟨b6,hb6,rfl,hH⟩;obtain rfl:=hH.symm;have hn4_6:=Heap.ne_of (oS _ _ _) hb6;have hn5_6:=Heap.ne_of (oS _ _ _) hb6;refine .s0 rfl (zN Z149 (tm rfl) (tm rfl) rfl rfl (.inr ⟨_,rfl⟩) ((oN _ _ aB).trans (oS _ _ _)) (lB rfl)) ?_;rintro _ _ ⟨rfl,hH⟩;obtain rfl:=hH.symm;try first|rw[sS]|rw[sU aB]
  refine .s0 rfl (zN Z149 (tm rfl) (tm rfl) rfl rfl (.inr ⟨_,rfl⟩) (oS _ _ _) (lB rfl)) ?_;rintro _ _ ⟨rfl,hH⟩;obtain rfl:=hH.symm;try first|rw[sS]|rw[sU aB]
  iterate 2 refine AX ?_
  refine .frz (t:=6) rfl (fS hb6 _) ?_;refine .frz (t:=5) rfl (hb5) ?_;iterate 2 refine AX ?_
  refine .p rfl (zA U149 rfl Z22 (tm rfl)) ?_;refine AX ?_;refine .p rfl (zA U149 rfl Z22 (tm rfl)) ?_;refine AX ?_;refine .ext rfl ext291 (.cons (tm rfl) (.cons (tm rfl) (.cons (zR 0) .nil))) (apT) ?_;iterate 9 refine AX ?_
  refine .p rfl (zA U149 rfl Z22 (tm rfl)) ?_;iterate 2 refine AX ?_
  refine .p rfl (yV (tm rfl) (tm rfl) (hfit)) ?_;refine AX ?_;refine .p rfl (zA U149 rfl Z22 (tm rfl)) ?_;refine AX ?_;refine .p rfl (zX zr247 pl247 (.cons (tm rfl) (.inl rfl) (.cons (tm rfl) (.inl rfl) (.cons (tm rfl) (.inl rfl) .nil))) rfl) ?_;iterate 3 refine AX ?_
  refine .frz (t:=4) rfl (hb4) ?_;iterate 2 refine AX ?_
  refine⟨?_,rfl⟩;obtain⟨e1,e2,e3⟩:=asQ a x;unfold u3 w3;rw[e1,e2,e3];rfl
 refine XTwo.s rfl rfl (ahU zr149) ?_;rintro _ _ ⟨b6,hb6,rfl,hH⟩;obtain rfl:=hH.symm;have hn4_6:=Heap.ne_of (oS _ _ _) hb6;refine .s rfl rfl (ahU zr149) ?_;rintro _ _ ⟨b5,hb5,rfl,hH⟩;obtain rfl:=hH.symm;have hn4_5:=Heap.ne_of (oS _ _ _) hb5;have hn6_5:=Heap.ne_of (oS _ _ _) hb5;refine .s0 rfl (zN Z149 (tm rfl) (tm rfl) rfl rfl (.inr ⟨_,rfl⟩) (oS _ _ _) (lB rfl)) ?_;rintro _ _ ⟨rfl,hH⟩;obtain rfl:=hH.symm;try first|rw[sS]|rw[sU aB]
 refine .s0 rfl (zN Z149 (tm rfl) (tm rfl) rfl rfl (.inr ⟨_,rfl⟩) ((oN _ _ aB).trans (oS _ _ _)) (lB rfl)) ?_;rintro _ _ ⟨rfl,hH⟩;obtain rfl:=hH.symm;try first|rw[sS]|rw[sU aB]
 iterate 2 refine AX ?_
 refine .frz (t:=5) rfl (fS hb5 _) ?_;refine .frz (t:=6) rfl (hb6) ?_;iterate 2 refine AX ?_
 refine .p rfl (zA U149 rfl Z22 (tm rfl)) ?_;refine AX ?_;refine .p rfl (zA U149 rfl Z22 (tm rfl)) ?_;refine AX ?_;refine .ext rfl ext291 (.cons (tm rfl) (.cons (tm rfl) (.cons (zR 0) .nil))) (apT) ?_;iterate 9 refine AX ?_
 refine .p rfl (zA U149 rfl Z22 (tm rfl)) ?_;iterate 2 refine AX ?_
 refine .p rfl (yV (tm rfl) (tm rfl) (hfit)) ?_;refine AX ?_;refine .p rfl (zA U149 rfl Z22 (tm rfl)) ?_;refine AX ?_;refine .p rfl (zX zr247 pl247 (.cons (tm rfl) (.inl rfl) (.cons (tm rfl) (.inl rfl) (.cons (tm rfl) (.inl rfl) .nil))) rfl) ?_;iterate 3 refine AX ?_
 refine .frz (t:=4) rfl (hb4) ?_;iterate 2 refine AX ?_
 refine⟨?_,rfl⟩;obtain⟨e1,e2,e3⟩:=asQ a x;unfold u3 w3;rw[e1,e2,e3];rfl
end
end Go.Proofs.YtmmgbnolccpjoaaGreatDoor
