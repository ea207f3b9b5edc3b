import Derived.Test.YteedncdcbgplfaaGreatDoorQ2
set_option maxHeartbeats 1000000
namespace Go.Proofs.YteedncdcbgplfaaGreatDoor
open Go.Proofs.Tryz
open Go Go.RowKit
set_option maxRecDepth 100000
variable{m w:Nat}
theorem buW{x:AV}(w:Nat)(h:x=u3 w)(hw:w<M3)(e:Int)(he: -10000≤e∧e≤2000):Fn 270 [x,.int .i64 e] (.int .u64 ((yD false w e false:Nat):Int)):=by
 intro H;subst h;exact awC w hw e he H
theorem bvA(_:w<M3)(h:M2≤w%M2+m)(hm:m<M1):(.agg [.int .u64 ((w/M2+1:Nat):Int),.int .u64 (((w%M2+m)%M2/M1:Nat):Int),.int .u64 (((w%M2+m)%M2%M1:Nat):Int)]:AV)=u3 (w+m):=by
 unfold u3 w3;have e1:(w+m)/M2=w/M2+1:=by unfold M1 M2 M3 at *;omega
 have e2:(w+m)/M1%M1=(w%M2+m)%M2/M1:=by unfold M1 M2 M3 at *;omega
 have e3:(w+m)%M1=(w%M2+m)%M2%M1:=by unfold M1 M2 M3 at *;omega
 rw[e1,e2,e3]
theorem buZ(_:w<M3)(h:¬M2≤w%M2+m)(hm:m<M1):(.agg [.int .u64 ((w/M2:Nat):Int),.int .u64 (((w%M2+m)%M2/M1:Nat):Int),.int .u64 (((w%M2+m)%M2%M1:Nat):Int)]:AV)=u3 (w+m):=by
 unfold u3 w3;have e1:(w+m)/M2=w/M2:=by unfold M1 M2 M3 at *;omega
 have e2:(w+m)/M1%M1=(w%M2+m)%M2/M1:=by unfold M1 M2 M3 at *;omega
 have e3:(w+m)%M1=(w%M2+m)%M2%M1:=by unfold M1 M2 M3 at *;omega
 rw[e1,e2,e3]
theorem cbL(hw:w+m<M3)(h:M2≤w%M2+m):w/M2+1<18446744073709551616:=by
 unfold M2 M3 at *;omega
theorem bmQ(k:Int)(hm:m<M1):abN k*m<M3∧abN k*m+m<M3:=by
 have hp:=ayB k;have h2:abN k*m+m=(abN k+1)*m:=by rw[bY,cQ]
 have h3:(abN k+1)*m≤M2*m:=bD _ hp;have h4:M2*m≤M2*(M1-1):=bS _ (by unfold M1 at *;omega);have h5:M2*(M1-1)<M3:=by decide+kernel
 omega
theorem bnC{k:Int}(hk: -400≤k∧k≤400): -10000≤atW k∧atW k≤2000:=by
 have h1:=akS k.toNat;have h2:=akS (-k).toNat;unfold atW;split<;>omega
theorem bfE(f:Nat→List AV)(hf:ROK f)(m:Nat)(hm:m<18446744073709551616)(k:Int)(hk: -400≤k∧k≤400)(b:Nat)(H:Heap)(hb:H.objs b=some (.box 227 (adM f))):ACall prog 234 [.ptr (some ⟨b,0,none⟩),.int .u64 (m:Int),.int .i64 k] H (λy H'=>y= .tuple [.int .u64 ((akV m k:Nat):Int),.bool (arL m k)]∧∃f',ROK f'∧H'=H.set b (.box 227 (adM f'))):=by
 obtain⟨hq1,hq2⟩:=bmQ k (m:=m) hm;have hE:=bnC hk;have hpl:=ayB k;have hlm:abN k*m%M2<M2:=bR _ aE;have hmM:m<M2:=eG hm aE;refine .of_body func234 rfl ntmps234 results234 rfl ?_;iterate 10 refine AM ?_
 refine .s rfl (zB call268 (evs2 rfl rfl) (caB f hf k hk b _ hb)) ?_;rintro _ _ ⟨rfl,f1,hf1,rfl⟩;refine .al zr222 (λb8 hb8=>?_);iterate 3 refine AX ?_
 refine .frz (t:=8) rfl (hb8) ?_;iterate 2 refine AX ?_
 refine .p rfl (zA U222 rfl Z220 (tm rfl)) ?_;iterate 2 refine AX ?_
 refine .cl rfl call269 (evs2 rfl rfl) (azS (abN k) m hpl hm _) ?_;refine .al zr324 (λb9 hb9=>?_);iterate 3 refine AX ?_
 refine .frz (t:=9) rfl (hb9) ?_;iterate 3 refine AX ?_
 refine .p rfl (zA U222 rfl Z3 (tm rfl)) ?_;refine AX ?_;refine .cl rfl call270 (evs2 rfl rfl) (awC _ hq1 _ hE _) ?_;iterate 6 refine AX ?_
 refine .p rfl (zA U222 rfl Z4 (tm rfl)) ?_;iterate 3 refine AX ?_
 refine .cx rfl (λhc26=>?_) (λhc26=>?_)
 ·iterate 10 refine AX ?_
  refine⟨?_,f1,hf1,rfl⟩;unfold arL;rw[show bdL k=true from hc26];rfl
 iterate 5 refine AX ?_
 refine .cl rfl call272 (evs1 rfl) (auI _ _ _ _) ?_;rw[ceK];refine AX ?_;refine .p rfl (yU zr220 pl220 (.cons (tm rfl) (.inl rfl) .nil) rfl) ?_;refine .cl rfl call271 (evs2 rfl rfl) ((by have h:=λH=>blG (abN k*m%M2) m hlm hmM H;rw[cdF (show m<M1 from hm)]at h;exact h _)) ?_;iterate 3 refine AX ?_
 refine .al zr220 (λb11 hb11=>?_);iterate 4 refine AX ?_
 refine .frz (t:=11) rfl (hb11) ?_;iterate 2 refine AX ?_
 refine .p rfl (zA U324 rfl Z25 (tm rfl)) ?_;refine AX ?_;refine .p rfl (zA U220 rfl Z25 (tm rfl)) ?_;refine AX ?_;refine .p rfl (zA U220 rfl Z25 (tm rfl)) ?_;refine AX ?_;refine .p rfl (yU zr324 pl324 (.cons (tm rfl) (.inl rfl) (.cons (tm rfl) (.inl rfl) (.cons (tm rfl) (.inl rfl) .nil))) rfl) ?_;refine .al zr324 (λb13 hb13=>?_);iterate 9 refine AX ?_
 refine .cx rfl (λhc43=>?_) (λhc43=>?_)
 ·have hfit:=cbL hq2 hc43;refine AX ?_;refine .p rfl (zC U324 rfl Z25 (tm rfl)) ?_;refine AX ?_;refine .p rfl (qF (tm rfl) (yB 1) (by exact hfit)) (.p rfl (zC U324 rfl Z25 (tm rfl)) ?_);iterate 7 refine AX ?_
  refine .p rfl (zA U222 rfl Z3 (tm rfl)) ?_;refine AX ?_;refine .cl rfl call270 (evs2 rfl rfl) (buW (abN k*m+m) (bvA hq1 hc43 hm) hq2 _ hE _) ?_;iterate 6 refine AX ?_
  refine .dropb (hb13) ?_;iterate 2 refine AX ?_
  refine⟨?_,f1,hf1,rfl⟩;unfold arL;rw[show bdL k=false from hc26,Bool.false_or,bY,cQ];have e:decide (((yD false (abN k*m+m) (atW k) false:Nat):Int)=((akV m k:Nat):Int))=decide (yD false (abN k*m+m) (atW k) false=akV m k):=aQ.2 aA;rw[←e];rfl
 iterate 6 refine AX ?_
 refine .p rfl (zA U222 rfl Z3 (tm rfl)) ?_;refine AX ?_;refine .cl rfl call270 (evs2 rfl rfl) (buW (abN k*m+m) (buZ hq1 hc43 hm) hq2 _ hE _) ?_;iterate 6 refine AX ?_
 refine .dropb (hb13) ?_;iterate 2 refine AX ?_
 refine⟨?_,f1,hf1,rfl⟩;unfold arL;rw[show bdL k=false from hc26,Bool.false_or,bY,cQ];have e:decide (((yD false (abN k*m+m) (atW k) false:Nat):Int)=((akV m k:Nat):Int))=decide (yD false (abN k*m+m) (atW k) false=akV m k):=aQ.2 aA;rw[←e];rfl
theorem bbP:∀(l:List UInt8)(acc:Nat),Digs l→bdN acc l<18446744073709551616→Lib.parseUintM 18446744073709551615 acc l= .ok (bdN acc l)
 | [],acc,_,_=>rfl
 |c::r,acc,hd,h=>by
  have hc:=hd c aF;rw[adG]at h;have h1:=btU (acc*10+(c.toNat-48)) r;unfold Lib.parseUintM;rw[aN ⟨hc.1,hc.2⟩,aJ,aJ,adG];exact bbP r _ (λb hb=>hd b (by simp[hb])) h
theorem bvZ{ds:List UInt8}(hd:Digs ds)(hl:ds.length≤19):num ds<18446744073709551616:=by
 have h:=ahK hd;refine bQ h (bC (bB aC hl) aC)
theorem bwA{ds:List UInt8}(hd:Digs ds)(hl:ds.length≤15):num ds<9223372036854775808:=by
 have h:=ahK hd;refine bQ h (bC (bB aC hl) aC)
theorem bhG(w:World)(e:TypeId)(s:ByteArray):Below w.heap.size w (Lib.bytesWorld w e s):=
 ⟨rfl,rfl,rfl,by rw[Lib.bytesWorld_size];omega,λk hk=>Lib.bytesWorld_at_old w e s k hk⟩
theorem puintA(ds:List UInt8)(hne:ds≠[])(hd:Digs ds)(hl:ds.length≤19):Fn 231 [.str ds,.int .i64 10,.int .i64 64] (.tuple [.int .u64 (num ds:Int),.nilIface]):=by
 intro H;refine .lib _ λg vs w k st=>?_;obtain⟨v,u,x,rfl,hv,hu,hx⟩:=relvs3 k;cases hv with|str _ hs=>?_
 cases hu;cases hx
 have hp:Lib.parseUintB 64 ds= .ok (num ds):=by
  unfold Lib.parseUintB;rw[aM hne];exact bbP ds 0 hd (bvZ hd hl)
 refine(Tryz.strconv_ParseUint_10_at64_ok ⟨ds.toArray⟩ (by show ds.toArray.size≤_;rw[eH];omega) (num ds) hp w).mono ?_;rintro e w' ⟨rfl,h⟩;refine⟨_,rfl,RelV.two (.int _ _) .nilIface,?_⟩;rcases h with rfl|rfl
 ·exact Below.refl _ _
 exact bhG _ _ _
def cjF:Nat→Nat
 |0=>yD false 1 0 false
 |i+1=>aoB (cjF i) (yD false 10 0 false)
def ciE(m j:Nat):Nat:=aoB (yD false m 0 false) (cjF j)
theorem axO(n:Nat)(e:Int)(more:Bool):yD false n e more<18446744073709551616:=bA (agH n e more) aC
theorem bsA(neg:Bool)(n:Nat)(e:Int)(more:Bool):yD neg n e more<18446744073709551616:=by
 have h:yD neg n e more=abA neg+yD false n e more:=by
  unfold yD;split
  ·rfl
  split
  ·unfold abA;simp
  rw[arV,arV];unfold abA;simp
 have h2:=agH n e more;rw[h];unfold abA anL at *;split<;>omega
theorem cbQ(a b:Nat):aoB a b<18446744073709551616:=by
 unfold aoB;split
 ·decide
 split
 ·split<;>decide
 exact bsA _ _ _ _
theorem pointR(neg:Bool)(ds:List UInt8)(e:Int)(hr:yE ds e=true):Fn 88 [dA neg ds e] (.int .i64 ((ds.length:Int)+e)):=by
 intro H;have h:=acT neg ds e (qC hr) H;rw[show zU ds e=(ds.length:Int)+e by unfold zU;rw[aN hr]]at h;exact h
theorem bqW(i:Nat):cjF i<18446744073709551616:=by
 cases i with
 |zero=>exact axO _ _ _
 |succ i=>exact cbQ _ _
def agA(ds:List UInt8)(e:Int):Nat:=
 if ds=[]∨(ds.length:Int)+e< -330 then 0
 else if 310<(ds.length:Int)+e then anL
 else if ds.length≤19 then
  (if ds.length≤15∧0≤e∧e≤22 then ciE (num ds) e.toNat
   else if arL (num ds) e=true then akV (num ds) e else axB (num ds) e)
 else axB (num ds) e
def cdH(_:Nat)(ds:List UInt8)(e:Int)(H:Heap):Nat→Env→Heap→Prop:=λk env H1=>∃i:Nat,(i:Int)≤e∧env=[(6,.int .u64 ((num ds:Nat):Int)),(8,.int .u64 ((cjF i:Nat):Int)),(50,.int .i64 e),(51,.int .i64 (i:Int))]∧H=H1∧k=e.toNat-i
theorem beJ(f:Nat→List AV)(hf:ROK f)(neg:Bool)(ds:List UInt8)(e:Int)(hr:yE ds e=true)(b:Nat)(H:Heap)(hb:H.objs b=some (.box 227 (adM f))):ACall prog 154 [.ptr (some ⟨b,0,none⟩),dA neg ds e] H (λy H'=>y= .int .u64 ((agA ds e:Nat):Int)∧∃f',ROK f'∧H'=H.set b (.box 227 (adM f'))):=by
 have hd:=qC hr;have hrl:=yX hr;have ht10:yD false 10 0 false<18446744073709551616:=axO _ _ _;refine .of_body func154 rfl ntmps154 results154 rfl ?_;iterate 10 refine AM ?_
 refine .cl rfl C88 (evs1 rfl) (pointR neg ds e hr _) ?_;iterate 4 refine AX ?_
 refine .seqTo 13 (.bool (decide (ds=[])||decide ((ds.length:Int)+e< -330))) [0,3,4,5] ?_ ?_
 ·refine AX ?_;refine .p rfl (zA U61 rfl Z9 (tm rfl)) ?_;iterate 3 refine AX ?_
  refine zD (t:=17) rfl (λhg17=>?_) (λhg17=>?_)
  ·have hh17:=hg17;try simp only[aL]at hh17
   iterate 5 refine AX ?_
   exact⟨rfl,zS rfl (by(rw[show decide (ds=[])=_ from hg17];rfl)) sX,rfl⟩
  have hh17:=hg17;try simp only[aL]at hh17
  iterate 5 refine AX ?_
  exact⟨rfl,zS rfl (by(rw[show decide (ds=[])=_ from hg17];rfl)) sX,rfl⟩
 refine .sub [(13,_),(0,_),(3,_),(4,_),(5,_)] sX ?_;refine .cx rfl (λhc13=>?_) (λhc13=>?_)
 ·simp only[dB,aT]at hc13;iterate 9 refine AM ?_
  refine⟨?_,f,hf,(Heap.set_self hb).symm⟩;unfold agA;rw[aN (hc13)];rfl
 simp only[dQ,aR]at hc13;obtain⟨hne,hlow⟩:=hc13;iterate 7 refine AX ?_
 refine .cx rfl (λhc21=>?_) (λhc21=>?_)
 ·iterate 9 refine AM ?_
  refine⟨?_,f,hf,(Heap.set_self hb).symm⟩;unfold agA;rw[aM (by intro q;rcases q with q|q;exact hne q;omega),aK];rfl
 iterate 6 refine AX ?_
 refine .p rfl (zA U61 rfl Z9 (tm rfl)) ?_;iterate 5 refine AX ?_
 refine .cx rfl (λhc27=>?_) (λhc27=>?_)
 ·have hl19:ds.length≤19:=by omega
  iterate 2 refine AX ?_
  refine .p rfl (zA U61 rfl Z9 (tm rfl)) ?_;refine AX ?_;refine .cl rfl call231 (.cons (tm rfl) (.cons zJ (.cons zJ .nil))) (puintA ds hne hd hl19 _) ?_;iterate 8 refine AX ?_
  refine .seqTo 47 (.bool (decide ((ds.length:Int)≤15)&&decide (0≤e)&&decide (e≤22))) [0,3,4,6] ?_ ?_
  ·refine AX ?_;refine .p rfl (zA U61 rfl Z9 (tm rfl)) ?_;iterate 4 refine AX ?_
   refine zD (t:=38) rfl (λhg38=>?_) (λhg38=>?_)
   ·have hh38:=hg38;try simp only[aL]at hh38
    refine .gp rfl rfl rfl aB (zA U61 rfl Z3 (tm rfl)) ?_;iterate 4 refine AX ?_
    refine zD (t:=43) rfl (λhg43=>?_) (λhg43=>?_)
    ·have hh43:=hg43;try simp only[aL]at hh43
     refine .gp rfl rfl rfl aB (zA U61 rfl Z3 (tm rfl)) ?_;iterate 4 refine AX ?_
     exact⟨rfl,zS rfl (by(rw[show decide ((ds.length:Int)≤15)=_ from hg38,show decide (0≤e)=_ from hg43];rfl)) sX,rfl⟩
    have hh43:=hg43;try simp only[aL]at hh43
    iterate 5 refine AX ?_
    exact⟨rfl,zS rfl (by(rw[show decide ((ds.length:Int)≤15)=_ from hg38,show decide (0≤e)=_ from hg43];rfl)) sX,rfl⟩
   have hh38:=hg38;try simp only[aL]at hh38
   iterate 10 refine AX ?_
   exact⟨rfl,zS rfl (by(rw[show decide ((ds.length:Int)≤15)=_ from hg38];rfl)) sX,rfl⟩
  refine .sub [(47,_),(0,_),(3,_),(4,_),(6,_)] sX ?_;refine .cx rfl (λhc47=>?_) (λhc47=>?_)
  ·simp only[bN,aT]at hc47;have hm63:=bwA hd aA;iterate 2 refine AX ?_
   refine .cl rfl call232 (.cons zJ .nil) (aoI 1 aC _) ?_;iterate 6 refine AX ?_
   refine .p rfl (zA U61 rfl Z3 (tm rfl)) ?_;iterate 5 refine AX ?_
   refine .loopW (cdH b ds e H) (e.toNat) ⟨0,by omega,rfl,rfl,rfl⟩ sX (hRa _) ?_;rintro _ _ _ ⟨i,hi,rfl,rfl,rfl⟩;iterate 6 refine AX ?_
   refine .cx rfl (λhc52=>?_) (λhc52=>?_)
   ·iterate 6 refine AX ?_
    refine .cl rfl call232 (.cons zJ .nil) (aoI 10 aC _) (.cl rfl call233 (evs2 rfl rfl) (awJ _ _ (bqW _) ht10 _) ?_);iterate 9 refine AX ?_
    refine Round.mk ⟨i+1,by omega,rfl,rfl,rfl⟩ sX (hRa _) aA
   iterate 8 refine AX ?_
   refine .p rfl (qD U25 U3 (tm rfl) (wrapNI64 aB)) (.cl rfl call232 (evs1 rfl) (aoI (num ds) (bwA hd aA) _) ?_);refine AX ?_;refine .cl rfl call233 (evs2 rfl rfl) (awJ _ _ (axO _ _ _) (bqW _) _) ?_;iterate 7 refine AX ?_
   refine⟨?_,f,hf,(Heap.set_self hb).symm⟩;unfold agA;obtain rfl:i=e.toNat:=by omega
   rw[aM (by intro q;rcases q with q|q;exact hne q;omega),aJ,aN hl19,aK];rfl
  simp only[cJ,aR]at hc47;iterate 6 refine AX ?_
  refine .p rfl (zA U61 rfl Z3 (tm rfl)) ?_;refine AX ?_;refine .s rfl (zB call234 (evs3 rfl rfl rfl) (bfE f hf (num ds) (bvZ hd hl19) e (by constructor<;>omega) b _ hb)) ?_;rintro _ _ ⟨rfl,f1,hf1,rfl⟩;iterate 12 refine AX ?_
  refine .cx rfl (λhc70=>?_) (λhc70=>?_)
  ·iterate 9 refine AX ?_
   refine⟨?_,f1,hf1,rfl⟩;unfold agA;rw[aM (by intro q;rcases q with q|q;exact hne q;omega),aJ,aN hl19,aJ,aN hc70];rfl
  iterate 5 refine AX ?_
  refine .cl rfl call235 (evs1 rfl) (auQ neg ds e hr hne aA _) ?_;iterate 5 refine AX ?_
  refine⟨?_,f1,hf1,rfl⟩;unfold agA;rw[aM (by intro q;rcases q with q|q;exact hne q;omega),aJ,aN hl19,aJ,aM (by rw[hc70];decide)];rfl
 iterate 5 refine AX ?_
 refine .cl rfl call235 (evs1 rfl) (auQ neg ds e hr hne aA _) ?_;iterate 5 refine AX ?_
 refine⟨?_,f,hf,(Heap.set_self hb).symm⟩;unfold agA;rw[aM (by intro q;rcases q with q|q;exact hne q;omega),aJ,aJ];rfl
theorem blC(neg:Bool)(x:Nat)(hx:x<9223372036854775808):Fn 153 [.bool neg,.int .u64 (x:Int)] (.int .u64 ((abA neg+x:Nat):Int)):=by
 intro H;refine .of_body func153 rfl ntmps153 results153 rfl ?_;iterate 11 refine AM ?_
 refine .cx rfl (λhc5=>?_) (λhc5=>?_)
 ·iterate 3 refine AX ?_
  refine .p rfl (abK (tm rfl) (yB 9223372036854775808) aA aA) ?_;iterate 6 refine AX ?_
  refine⟨?_,rfl⟩;rw[show neg=true from hc5,show abA true=9223372036854775808 from rfl,←btG hx];rfl
 iterate 10 refine AX ?_
 refine⟨?_,rfl⟩;rw[show neg=false from hc5,show abA false=0 from rfl,bZ];rfl
theorem bkI{a b:Nat}(ha:a<9223372036854775808)(hb:b<9223372036854775808):aoB a b≤9221120237041090560:=by
 have hn:ayK a b=false:=by
  unfold ayK;refine aS ?_;rw[cD (show a<2^63 from ha),cD (show b<2^63 from hb)];simp
 unfold aoB;rw[hn];split
 ·exact aZ _
 split
 ·decide
 exact bC (agH _ _ _) aC
theorem bqX:∀i,cjF i<9223372036854775808
 |0=>bA (agH _ _ _) aC
 |i+1=>bA (bkI (bqX i) (bA (agH _ _ _) aC)) aC
theorem biE(ds:List UInt8)(e:Int):agA ds e<9223372036854775808:=by
 have hs:axB (num ds) e<9223372036854775808:=by
  unfold axB bbE;split<;>exact bA (agH _ _ _) aC
 unfold agA;split
 ·decide
 split
 ·decide
 split
 ·split
  ·exact bA (bkI (bA (agH _ _ _) aC) (bqX _)) aC
  split
  ·exact bA (agH _ _ _) aC
  exact hs
 exact hs
def agX(neg:Bool)(ds:List UInt8)(e:Int):Nat:=abA neg+agA ds e
theorem bfC(f:Nat→List AV)(hf:ROK f)(neg:Bool)(ds:List UInt8)(e:Int)(hr:yE ds e=true)(b:Nat)(H:Heap)(hb:H.objs b=some (.box 227 (adM f))):ACall prog 72 [.ptr (some ⟨b,0,none⟩),dA neg ds e] H (λy H'=>y= .tuple [.int .u64 ((agX neg ds e:Nat):Int),.int .i64 0]∧∃f',ROK f'∧H'=H.set b (.box 227 (adM f'))):=by
 refine .of_body func72 rfl ntmps72 results72 rfl ?_;iterate 4 refine AM ?_
 iterate 7 refine AX ?_
 refine .cl rfl C152 (evs1 rfl) (adW neg ds e (qC hr) _) ?_;iterate 3 refine AX ?_
 refine .cond_false (tm rfl) (by rw[hr];rfl) ?_;iterate 3 refine AX ?_
 refine .draw [(0,true),(1,true),(2,true),(3,true),(4,false),(5,false),(6,true),(7,true)] rfl aE ?_;refine .p rfl rfl (zA U61 rfl Z4 (tm rfl)) ?_;iterate 3 refine AX ?_
 refine .s rfl rfl (zB call154 (evs2 rfl rfl) (beJ f hf neg ds e hr b _ hb)) ?_;rintro _ _ ⟨rfl,f1,hf1,rfl⟩;refine .s rfl rfl (zB call153 (evs2 rfl rfl) (blC neg _ (biE ds e) _)) ?_;rintro _ _ ⟨rfl,hH⟩;obtain rfl:=hH.symm;iterate 6 refine AX ?_
 exact⟨rfl,f1,hf1,rfl⟩
end Go.Proofs.YteedncdcbgplfaaGreatDoor
