import Derived.Test.YteedncdcbgplfaaGreatDoorD1
set_option maxHeartbeats 1000000
namespace Go.Proofs.YteedncdcbgplfaaGreatDoor
open Go.Proofs.Tryz
open Go Go.RowKit
variable{j n:Nat}{ks ts:List Nat}
section
set_option maxRecDepth 100000
def upB(rest:List UInt8):Bool:=decide (53≤(rest.getD 0 0).toNat)
theorem cmp5{rest:List UInt8}(h:rest≠[]):(0:Int)≤Lib.compareBytes rest [53]↔53≤(rest.getD 0 0).toNat:=by
 cases rest with
 |nil=>exact absurd rfl h
 |cons x r=>
  unfold Lib.compareBytes;simp only[eJ];have hx:x<53↔x.toNat<53:=UInt8.lt_iff_toNat_lt;have hy:53<x↔53<x.toNat:=UInt8.lt_iff_toNat_lt;split
  ·rename_i h1;have:=hx.1 h1;omega
  rename_i h1
  have h1':¬x.toNat<53:=λq=>h1 (hx.2 q);split
  ·omega
  cases r with
  |nil=>unfold Lib.compareBytes;omega
  |cons y r=>unfold Lib.compareBytes;omega
def aoC(s:List UInt8):List UInt8:=
 if Lib.trimRightB s 57=[]then 49::List.replicate s.length 48
 else(Lib.trimRightB s 57).take ((Lib.trimRightB s 57).length-1)++[UInt8.ofNat (((Lib.trimRightB s 57).getD ((Lib.trimRightB s 57).length-1) 0).toNat+1)]++List.replicate (s.length-(Lib.trimRightB s 57).length) 48
def bhM(neg:Bool)(ds:List UInt8)(e:Int)(n:Nat):(Bool×List UInt8×Int)×Int:=mkN neg (if upB (ds.drop n)=true then aoC (ds.take n)else ds.take n) (e+ds.length-n)
def boR(neg:Bool)(ds:List UInt8)(e:Int)(n:Nat):(Bool×List UInt8×Int)×Int:=if ds.length≤n then((neg,ds,e),0)else bhM neg ds e n
theorem Digs.app{a b:List UInt8}(h:Digs a)(k:Digs b):Digs (a++b):=λx hx=>by
 rcases eA.1 hx with h1|h1
 ·exact h x h1
 exact k x h1
theorem Digs.rep{x:UInt8}(h:isD x):Digs (List.replicate n x):=λy hy=>by rw[fC hy];exact h
theorem Digs.one{x:UInt8}(h:isD x):Digs [x]:=λy hy=>by rw[dG.1 hy];exact h
theorem btX {s : List UInt8} (hd : Digs s) (h : Lib.trimRightB s 57 ≠ []) : 48 ≤ ((Lib.trimRightB s 57).getD ((Lib.trimRightB s 57).length - 1) 0).toNat ∧ ((Lib.trimRightB s 57).getD ((Lib.trimRightB s 57).length - 1) 0).toNat < 57 := by
 have hp := bK.2 h
 have h1 := (hd.trimR 57).at (p := (Lib.trimRightB s 57).length - 1) aA
 have h2 := arP h
 refine ⟨h1.1, ?_⟩
 rcases bV ((Lib.trimRightB s 57).getD ((Lib.trimRightB s 57).length - 1) 0).toNat 57 with q | q
 ·exact q
 exact absurd (eP.1 (show _ = (57 : UInt8).toNat by simp only [UInt8.reduceToNat]; omega)) h2
theorem ahU{s:List UInt8}(hd:Digs s):Digs (aoC s):=by
 unfold aoC;split
 ·exact Digs.app (a:=[49]) (Digs.one (by unfold isD;decide)) (Digs.rep (by unfold isD;decide))
 rename_i h
 obtain⟨h1,h2⟩:=btX hd h;refine Digs.app (Digs.app ((hd.trimR 57).take _) (Digs.one ?_)) (Digs.rep (by unfold isD;decide));unfold isD;rw[fJ];omega
theorem akP(s:List UInt8):(aoC s).length≤s.length+1:=by
 unfold aoC;have:=afV s 57;split
 ·simp
 rename_i h
 have hp:=bK.2 h;simp only[aR,aU,bA,aX,aY];omega
theorem awC(neg:Bool)(kept rest:List UInt8)(hr:rest≠[]):Fn 275 [.bool neg,.str kept,.str rest,.int .i64 1] (.bool (upB rest)):=by
 intro H;refine .of_body func275 rfl ntmps275 results275 rfl ?_;iterate 12 refine AX ?_
 refine .cond_false (tm rfl) (by exact aP hr) ?_;iterate 5 refine AX ?_
 refine .cl rfl call304 (.cons (tm rfl) (.cons (zS rfl) .nil)) (compareA rest [53] _) ?_;iterate 16 refine AX ?_
 refine .cond_false (tm rfl) aD ?_;iterate 6 refine AX ?_
 refine .cond_true (tm rfl) aD ?_;iterate 11 refine AX ?_
 refine⟨?_,rfl⟩;simp only[yY,upB];congr 1;exact aO.2 (cmp5 hr)
theorem asQ(s:List UInt8)(hd:Digs s)(hl:s.length≤100000):Fn 276 [.str s] (.str (aoC s)):=by
 intro H;have htl:=afV s 57;have hml:=zN;refine .of_body func276 rfl ntmps276 results276 rfl ?_;iterate 8 refine AX ?_
 refine .cl rfl call151 (.cons (tm rfl) (.cons (zS rfl) .nil)) (trimRightA 57 aC s _) ?_;iterate 10 refine AX ?_
 refine .cl rfl C103 (.cons (zS rfl) (evs1 rfl)) (repeatZ 48 _ (s.length-(Lib.trimRightB s 57).length) aA aA _) ?_;iterate 10 refine AX ?_
 refine .cx rfl (λhc14=>?_) (λhc14=>?_)
 ·iterate 3 refine AX ?_
  refine .p rfl (zQ (zS rfl) (tm rfl) (by rw[zN,bA];simp only[aX,aY];omega)) ?_;iterate 6 refine AX ?_
  refine⟨?_,rfl⟩;unfold aoC;rw[aN hc14,hc14];rfl
 have htp:=bK.2 hc14;obtain⟨h91,h92⟩:=btX hd hc14;have htn:(((Lib.trimRightB s 57).length:Int)-1).toNat=(Lib.trimRightB s 57).length-1:=by omega
 rw[←htn]at h91 h92;iterate 3 refine AX ?_
 refine .draw [(0,true),(1,true),(2,true),(3,true),(4,true),(5,true),(6,true),(7,true),(8,true),(9,true),(10,true),(11,true),(12,true),(13,true),(14,true),(15,true)] rfl aE ?_;iterate 10 refine AX ?_
 refine .p rfl rfl (asJ (tm rfl) (yT 1) aA) (.p rfl rfl (axP U5 U9 (tm rfl) aA) (.p rfl rfl (zQ (tm rfl) (tm rfl) (by rw[zN];simp only[aX,aY,aU];omega)) ?_));refine AX ?_;refine .p rfl rfl (zQ (tm rfl) (tm rfl) (by rw[zN];simp only[aR,bA,aX,aY,aU];omega)) ?_;iterate 5 refine AX ?_
 refine⟨?_,rfl⟩;unfold aoC;rw[aM hc14,←htn];rfl
theorem bhN(neg:Bool)(ds:List UInt8)(e:Int)(n:Nat)(hd:Digs ds)(hn:0<n)(hn2:n<ds.length)(hl:ds.length≤2000)(he: -200000≤e∧e≤200000):Fn 237 [dA neg ds e,.int .i64 (n:Int),.int .i64 1] (dT (bhM neg ds e n)):=by
 intro H;have hdn:ds.drop n≠[]:=by intro h;have:=congrArg List.length h;simp at this;omega
 have hil:=akP (ds.take n);rw[aU]at hil;have hml:=zN;refine .of_body func237 rfl ntmps237 results237 rfl ?_;iterate 3 refine AX ?_
 refine .al zr61 (λb6 hb6=>?_);iterate 5 refine AX ?_
 refine .p rfl (zA U61 rfl Z3 (tm rfl)) ?_;refine AX ?_;refine .p rfl (zA U61 rfl Z9 (tm rfl)) ?_;iterate 9 refine AX ?_
 refine .draw [(0,true),(1,true),(2,true),(3,true),(5,true),(6,true),(4,false),(7,true),(8,true),(9,true)] rfl aE ?_;iterate 4 refine AX ?_
 refine .p rfl rfl (zA U61 rfl Z9 (tm rfl)) ?_;refine AX ?_;refine .s rfl rfl (zD C103 (.cons (zS rfl) (evs1 rfl)) (repeatZ 48 _ 0 (by simp only[asX,asW];split<;>split<;>omega) aA _)) ?_;rintro _ _ ⟨rfl,hH⟩;obtain rfl:=hH.symm;refine .p rfl rfl (zQ (tm rfl) (tm rfl) (by rw[zN,bA];omega)) ?_;iterate 11 refine AX ?_
 refine .cond_true (tm rfl) (by exact aQ aA) ?_;refine .draw [(0,true),(1,true),(2,true),(3,true),(4,true),(5,true),(6,true),(7,true),(8,true),(9,true)] rfl aE ?_;refine .p rfl rfl (zA U61 rfl Z9 (tm rfl)) ?_;iterate 3 refine AX ?_
 refine .p rfl rfl (zA U61 rfl Z9 (tm rfl)) ?_;iterate 7 refine AX ?_
 refine .seqToL [(9,.str (if upB (ds.drop n)=true then aoC (ds.take n)else ds.take n))] [3,6,7,8] ?_ ?_
 ·iterate 2 refine AX ?_
  refine .p rfl (zA U61 rfl Z4 (tm rfl)) ?_;iterate 4 refine AX ?_
  refine .cl rfl call275 (.cons (tm rfl) (evs3 rfl rfl rfl)) (awC neg _ _ hdn _) ?_;iterate 2 refine AX ?_
  refine .cx rfl (λhc42=>?_) (λhc42=>?_)
  ·iterate 2 refine AX ?_
   refine .cl rfl call276 (evs1 rfl) (asQ (ds.take n) (hd.take n) (by rw[aU];omega) _) ?_;iterate 2 refine AX ?_
   exact⟨rfl,(zU rfl (by(rw[aN (show upB (ds.drop n)=true from hc42)];done)) sX),rfl⟩
  refine AX ?_;exact⟨rfl,(zU rfl (by(rw[aM (show¬upB (ds.drop n)=true from by first|exact hc42|(intro q;rw[show upB (ds.drop n)=false from hc42]at q;cases q))];rfl)) sX),rfl⟩
 refine .sub [(9,_),(3,_),(6,_),(7,_),(8,_)] sX ?_;iterate 2 refine AX ?_
 refine .p rfl (zA U61 rfl Z4 (tm rfl)) ?_;iterate 3 refine AX ?_
 refine .cl rfl call71 (evs3 rfl rfl rfl) (amK neg (if upB (ds.drop n)=true then aoC (ds.take n)else ds.take n) _ (by split;exact ahU (hd.take n);exact hd.take n) (by split;omega;rw[aU];omega) (by constructor<;>omega) _) ?_;iterate 6 refine AX ?_
 refine .frz (t:=6) rfl (hb6) ?_;iterate 2 refine AX ?_
 refine⟨?_,rfl⟩;rfl
theorem boF(neg:Bool)(ds:List UInt8)(e:Int)(n:Nat)(hr:yN ds e=true)(hn:0<n)(hn2:n≤100000):Fn 164 [dA neg ds e,.int .i64 (n:Int),.int .i64 1] (dT (boR neg ds e n)):=by
 intro H;have hk1:(!yN ds e)=false:=by rw[hr];rfl
 have hrl:=yO hr;have hdd:=qK hr;refine .of_body func164 rfl ntmps164 results164 rfl ?_;iterate 3 refine AX ?_
 refine .al zr61 (λb6 hb6=>?_);iterate 8 refine AX ?_
 refine .cl rfl C152 (evs1 rfl) (aeZ neg ds e hdd _) ?_;iterate 16 refine AX ?_
 refine .cond_false (tm rfl) (by exact aP aA) ?_;iterate 3 refine AX ?_
 refine .p rfl (zA U61 rfl Z9 (tm rfl)) ?_;iterate 6 refine AX ?_
 refine .cx rfl (λhc25=>?_) (λhc25=>?_)
 ·iterate 7 refine AX ?_
  refine .frz (t:=6) rfl (hb6) ?_;iterate 4 refine AX ?_
  refine⟨?_,rfl⟩;unfold boR;rw[aK];rfl
 iterate 8 refine AX ?_
 refine .cl rfl call237 (evs3 rfl rfl rfl) (bhN neg ds e n hdd hn aA aA aA _) ?_;iterate 6 refine AX ?_
 refine .frz (t:=6) rfl (hb6) ?_;iterate 2 refine AX ?_
 refine⟨?_,rfl⟩;unfold boR;rw[aJ];rfl
end
section
open Go Go.RowKit
set_option maxRecDepth 100000
theorem bnU(s:List UInt8)(k:Nat):s.map bv++List.replicate k (.int .u8 0)=U .u8 (s.map UInt8.toNat++List.replicate k 0):=by
 rw[←avQ];unfold U;rw[List.map_map,List.map_replicate];rfl
theorem bxF(l:List UInt8):U .u8 (l.map UInt8.toNat)=l.map bv:=by
 unfold U;rw[List.map_map];rfl
def anK(rest:List UInt8):Int:=if rest=[53]then 0 else if(decide ((53:Int)<(((rest.getD 0 0).toNat:Nat):Int))||(decide ((((rest.getD 0 0).toNat:Nat):Int)=53)&&decide ((1:Int)<(rest.length:Int))))=true then 1 else-1
theorem bmZ{rest:List UInt8}(h:rest≠[]):decide ((0:Int)≤anK rest)=upB rest:=by
 unfold anK upB;apply aO.2;cases rest with
 |nil=>exact absurd rfl h
 |cons x r=>
  simp only[eJ];split
  ·rename_i h1
   have:x=53:=by simp at h1;exact h1.1
   rw[this];decide
  rename_i h1
  have h2:x.toNat=53→r≠[]:=λq q2=>h1 (by rw[q2,eP.1 (show x.toNat=(53:UInt8).toNat from q)]);split
  ·rename_i h3
   simp only[dK,bD,aW]at h3;omega
  rename_i h3
  simp only[dK,bD,aW,not_or,not_and]at h3;constructor
  ·intro q;omega
  intro q;have h4:x.toNat=53:=by omega
  have h5:=bK.2 (h2 h4);have h6:=h3.2 aA;simp only[aX]at h6;omega
theorem baH(hk:ks.length=n)(h1:1≤j)(hj:j≤n):(ks.take j++List.replicate (n-j) 48++ts).getD (j-1) 0=ks.getD (j-1) 0:=by
 rw[bF,aS,dB (by rw[aU];omega),dZ aA,aS]
theorem bkJ(hk:ks.length=n)(h1:1≤j)(hj:j≤n)(v:Nat):(ks.take j++List.replicate (n-j) 48++ts).set (j-1) v=(ks.take (j-1)++[v]++List.replicate (n-j) 48)++ts:=by
 have e:ks.take j=ks.take (j-1)++[ks[j-1]'aA]:=by
  rw[bP aA,show j-1+1=j by omega]
 rw[bF,List.set_append_left _ _ (by rw[aU];omega),e,List.set_append_right _ _ (by rw[aU];omega),aU,show j-1-min (j-1) ks.length=0 by omega];simp
theorem bpV(hk:ks.length=n)(h1:1≤j)(hj:j≤n):(ks.take j++List.replicate (n-j) 48++ts).set (j-1) 48=ks.take (j-1)++List.replicate (n-(j-1)) 48++ts:=by
 rw[bkJ hk h1 hj,show n-(j-1)=(n-j)+1 by omega,eQ];simp
theorem apA(hk:ks.length=n)(hj:j≤n):(ks.take j++List.replicate (n-j) 48).length=n∧n≤(ks.take j++List.replicate (n-j) 48++ts).length:=by
 simp only[aR,aU,bA];omega
theorem aoA{s:List UInt8}{q:Nat}:(s.map UInt8.toNat).getD q 0=(s.getD q 0).toNat:=by
 rw[aS,aS,cH];cases s[q]?<;>rfl
theorem bwI{s:List UInt8}(h:Lib.trimRightB s 57=[]):(aoC s).map UInt8.toNat=[49]++List.replicate s.length 48:=by
 unfold aoC;rw[aN h];simp
theorem byQ{s:List UInt8}(hd:Digs s)(h1:1≤j)(hj:j≤s.length)(h:Lib.trimRightB s 57=s.take j):(aoC s).map UInt8.toNat=(s.map UInt8.toNat).take (j-1)++[(s.map UInt8.toNat).getD (j-1) 0+1]++List.replicate (s.length-j) 48:=by
 have hl:(s.take j).length=j:=by rw[aU];omega
 unfold aoC;rw[h,aM (λq=>by rw[q]at hl;simp at hl;omega),hl,List.take_take,cQ aA,aoA];have e:(s.take j).getD (j-1) 0=s.getD (j-1) 0:=by
  rw[aS,dZ aA,aS]
 have hb:=hd.at (show j-1<s.length by omega);rw[e];simp only[dP,List.map_take,dW,List.map_nil,List.map_replicate];congr 2
 ·congr 2
  rw[fJ];omega
theorem aqG{H:Heap}{b c:Nat}{x:AObj}(h:(H.set b x).objs c=none)(x':AObj):(H.set b x').objs c=none:=fS h x'
def btL(neg:Bool)(ds:List UInt8)(e:Int)(n b6 b c:Nat)(ts:List Nat)(H:Heap):Nat→Env→Heap→Prop:=λk env H1=>∃j:Nat,j≤n∧(∀q,j≤q→q<n→(ds.take n).getD q 0=57)∧env=[(3,.iptr [.bool neg,.str ds,.int .i64 e]),(6,.ptr (some ⟨b6,0,none⟩)),(8,.int .i64 (e+(ds.length:Int)-(n:Int))),(9,.mslice (some ⟨b,0,none⟩) n c),(14,.int .i64 ((j:Int)-1))]∧H1=(H.set b6 (.box 61 [.bool false,.str [],.int .i64 0])).set b (.box 5 (U .u8 (((ds.take n).map UInt8.toNat).take j++List.replicate (n-j) 48++ts)))∧k=j
theorem apI(neg:Bool)(ds:List UInt8)(e:Int)(n:Nat)(hd:Digs ds)(hn:0<n)(hn2:n<ds.length)(hl:ds.length≤2000)(he: -200000≤e∧e≤200000):Fn 134 [dA neg ds e,.int .i64 (n:Int),.int .i64 1] (dT (bhM neg ds e n)):=by
 intro H;have hdn:ds.drop n≠[]:=by intro h;have:=congrArg List.length h;simp at this;omega
 have hup:=bmZ hdn;have hil:=akP (ds.take n);have hkn:(ds.take n).length=n:=by rw[aU];omega
 have hks:((ds.take n).map UInt8.toNat).length=n:=by rw[bQ,hkn]
 have hml:=zN;have hnp:decide ((0:Int)<(n:Int))=true:=aQ aA;have hdp:=bK.2 hdn;have hkd:=hd.take n;refine .of_body func134 rfl ntmps134 results134 rfl ?_;iterate 3 refine AX ?_
 refine .al zr61 (λb6 hb6=>?_);iterate 5 refine AX ?_
 refine .p rfl (zA U61 rfl Z3 (tm rfl)) ?_;refine AX ?_;refine .p rfl (zA U61 rfl Z9 (tm rfl)) ?_;iterate 10 refine AX ?_
 refine .p rfl (zA U61 rfl Z9 (tm rfl)) ?_;iterate 3 refine AX ?_
 refine .s rfl (arS U9 U252 U5 (tm rfl) (by(rw[aU];omega))) ?_;rintro _ _ ⟨b27,c27,rfl,hcl27,hcm27,hb27,hH⟩;obtain rfl:=hH.symm;iterate 4 refine AX ?_
 have hcl:n≤c27:=by rw[←hkn];exact hcl27
 rw[bnU,show((n:Int)).toNat=n from rfl,hkn];generalize hts:List.replicate (c27-n) 0=ts;have hrow0:((ds.take n).map UInt8.toNat)++ts=((ds.take n).map UInt8.toNat).take n++List.replicate (n-n) 48++ts:=by rw[aZ (l:=((ds.take n).map UInt8.toNat)) (Nat.le_of_eq hks),Nat.sub_self,List.replicate_zero,bJ]
 refine AX ?_;refine .p rfl (zA U61 rfl Z9 (tm rfl)) ?_;iterate 7 refine AX ?_
 rw[show((n:Int)).toNat=n from rfl];iterate 4 refine AX ?_
 refine .seqToL [(11,.int .i64 (anK (ds.drop n)))] [1,2,3,6,7,8,9,10] ?_ ?_
 ·iterate 6 refine AX ?_
  refine .cond_true (tm rfl) (by show(!decide (ds.drop n=[]))=true;rw[aP hdn];rfl) ?_;iterate 5 refine AX ?_
  refine .seqToL [(11,.int .i64 (if(decide ((53:Int)<((((ds.drop n).getD 0 0).toNat:Nat):Int))||(decide (((((ds.drop n).getD 0 0).toNat:Nat):Int)=53)&&decide ((1:Int)<((ds.drop n).length:Int))))=true then 1 else-1))] [1,2,3,6,7,8,9,10] ?_ ?_
  ·refine .seqTo 46 (.bool ((decide ((53:Int)<((((ds.drop n).getD 0 0).toNat:Nat):Int))||(decide (((((ds.drop n).getD 0 0).toNat:Nat):Int)=53)&&decide ((1:Int)<((ds.drop n).length:Int)))))) [1,2,3,6,7,8,9,10,11] ?_ ?_
   ·iterate 3 refine AX ?_
    iterate 2 refine AM ?_
    refine zC (t:=37) rfl (λhg37=>?_) (λhg37=>?_)
    ·have hh37:=hg37;try simp only[aW]at hh37
     iterate 10 refine AX ?_
     exact⟨rfl,zO rfl (by(rw[show decide ((53:Int)<((((ds.drop n).getD 0 0).toNat:Nat):Int))=_ from hg37];rfl)) sX,rfl⟩
    have hh37:=hg37;try simp only[aT,cF]at hh37
    iterate 2 refine AX ?_
    iterate 2 refine AM ?_
    refine zC (t:=41) rfl (λhg41=>?_) (λhg41=>?_)
    ·have hh41:=hg41;try simp only[aW]at hh41
     iterate 6 refine AX ?_
     exact⟨rfl,zO rfl (by(rw[show decide ((53:Int)<((((ds.drop n).getD 0 0).toNat:Nat):Int))=_ from hg37,show decide (((((ds.drop n).getD 0 0).toNat:Nat):Int)=53)=_ from hg41];rfl)) sX,rfl⟩
    have hh41:=hg41;try simp only[aT]at hh41
    iterate 6 refine AX ?_
    exact⟨rfl,zO rfl (by(rw[show decide ((53:Int)<((((ds.drop n).getD 0 0).toNat:Nat):Int))=_ from hg37,show decide (((((ds.drop n).getD 0 0).toNat:Nat):Int)=53)=_ from hg41];rfl)) sX,rfl⟩
   refine .sub [(46,_),(1,_),(2,_),(3,_),(6,_),(7,_),(8,_),(9,_),(10,_),(11,_)] sX ?_;refine .cx rfl (λhc46=>?_) (λhc46=>?_)
   ·iterate 3 refine AX ?_
    exact⟨rfl,(zU rfl (by(rw[aN hc46];done)) sX),rfl⟩
   refine AX ?_;exact⟨rfl,(zU rfl (by(rw[aM (by rw[hc46];decide)];done)) sX),rfl⟩
  refine .sub [(11,_),(1,_),(2,_),(3,_),(6,_),(7,_),(8,_),(9,_),(10,_)] sX ?_;iterate 6 refine AX ?_
  refine .cx rfl (λhc48=>?_) (λhc48=>?_)
  ·iterate 3 refine AX ?_
   exact⟨rfl,(zU rfl (by unfold anK;first|(rw[aN (show ds.drop n=[53]from hc48)];done)|(rw[aM (show¬ds.drop n=[53]from hc48)];done)) sX),rfl⟩
  refine AX ?_;exact⟨rfl,(zU rfl (by unfold anK;first|(rw[aN (show ds.drop n=[53]from hc48)];done)|(rw[aM (show¬ds.drop n=[53]from hc48)];done)) sX),rfl⟩
 refine .sub [(11,_),(1,_),(2,_),(3,_),(6,_),(7,_),(8,_),(9,_),(10,_)] sX ?_;refine .seqTo 12 (.bool (decide (((((ds.take n).map UInt8.toNat)++ts).getD (n-1) 0%2:Nat)=(1:Int)))) [11,1,2,3,6,7,8,9,10] ?_ ?_
 ·iterate 7 refine AX ?_
  refine .gp rfl rfl rfl aB (yR (n-1) U252 Z5 (tm rfl) (tm rfl) aA aA) (.gs rfl rfl rfl aB (aaP G5 (tm rfl) (oS _ _ _) (by(rw[aR,bQ,aU];omega))) ?_);rintro _ _ ⟨rfl,hH⟩;obtain rfl:=hH.symm;iterate 5 refine AM ?_
  exact⟨rfl,zO rfl aD sX,rfl⟩
 refine .sub [(12,_),(11,_),(1,_),(2,_),(3,_),(6,_),(7,_),(8,_),(9,_),(10,_)] sX ?_;iterate 18 refine AX ?_
 refine .cond_false (tm rfl) aD ?_;iterate 6 refine AX ?_
 refine .cond_true (tm rfl) aD ?_;iterate 7 refine AX ?_
 refine .meet (λenv H2=>∃(b c:Nat)(zs ts:List Nat),zs=(if upB (ds.drop n)=true then aoC (ds.take n)else ds.take n).map UInt8.toNat∧zs.length≤c∧c≤maxLen∧(H.set b6 (.box 61 [.bool false,.str [],.int .i64 0])).objs b=none∧env=[(3,.iptr [.bool neg,.str ds,.int .i64 e]),(6,.ptr (some ⟨b6,0,none⟩)),(8,.int .i64 (e+(ds.length:Int)-(n:Int))),(9,.mslice (some ⟨b,0,none⟩) zs.length c)]∧H2=(H.set b6 (.box 61 [.bool false,.str [],.int .i64 0])).set b (.box 5 (U .u8 (zs++ts)))) ?_ ?_
 ·refine .seqTo 91 (.bool (upB (ds.drop n))) [1,3,6,7,8,9] ?_ ?_
  ·iterate 3 refine AX ?_
   refine zC (t:=88) rfl (λhg88=>?_) (λhg88=>?_)
   ·have hh88:=hg88;try simp only[aW]at hh88
    iterate 4 refine AX ?_
    exact⟨rfl,zO rfl (by(rw[←hup,show decide ((0:Int)≤anK (ds.drop n))=_ from hg88];show(!decide (ds.drop n=[]))=true;rw[aP hdn];rfl)) sX,rfl⟩
   have hh88:=hg88;try simp only[aT,Int.not_le]at hh88
   iterate 4 refine AX ?_
   exact⟨rfl,zO rfl (by(rw[←hup,show decide ((0:Int)≤anK (ds.drop n))=_ from hg88];done)) sX,rfl⟩
  refine .sub [(91,_),(1,_),(3,_),(6,_),(7,_),(8,_),(9,_)] sX ?_;refine .cx rfl (λhc91=>?_) (λhc91=>?_)
  ·iterate 9 refine AX ?_
   refine .loopW (btL neg ds e n b6 b27 c27 ts H) (n) ⟨n,bB _,λq h1 h2=>by omega,rfl,by rw[hrow0],rfl⟩ sX (hRa _) ?_;rintro _ _ _ ⟨j,hj,h9,rfl,rfl,hk⟩;refine AX ?_;refine .seqTo 102 (.bool (decide ((0:Int)≤(j:Int)-1)&&decide ((((((ds.take n).map UInt8.toNat).take j++List.replicate (n-j) 48++ts).getD (j-1) 0:Nat):Int)=((57:Nat):Int)))) [3,6,8,9,14] ?_ ?_
   ·iterate 4 refine AX ?_
    refine zC (t:=96) rfl (λhg96=>?_) (λhg96=>?_)
    ·have hh96:=hg96;try simp only[aW]at hh96
     iterate 2 refine AX ?_
     refine .gp rfl rfl rfl aB (yR (j-1) U252 Z5 (tm rfl) (tm rfl) aA aA) ?_;refine .gs rfl rfl rfl aB (aaP G5 (tm rfl) (oS _ _ _) (by(have:=(apA (ts:=ts) hks (show j≤n by omega)).2;omega))) ?_;rintro _ _ ⟨rfl,hH⟩;obtain rfl:=hH.symm;iterate 3 refine AM ?_
     exact⟨rfl,zO rfl (by(rw[show decide ((0:Int)≤(j:Int)-1)=_ from hg96];rfl)) sX,rfl⟩
    have hh96:=hg96;try simp only[aT,Int.not_le]at hh96
    iterate 7 refine AX ?_
    exact⟨rfl,zO rfl (by(rw[show decide ((0:Int)≤(j:Int)-1)=_ from hg96];rfl)) sX,rfl⟩
   refine .sub [(102,_),(3,_),(6,_),(8,_),(9,_),(14,_)] sX ?_;refine .cx rfl (λhc102=>?_) (λhc102=>?_)
   ·simp only[bD,aW]at hc102;obtain⟨hj1,hc102b⟩:=hc102;have hgr:=baH (ts:=ts) hks (show 1≤j by omega) hj;have h57:(ds.take n).getD (j-1) 0=57:=by
     have h:=hc102b;rw[hgr,aoA]at h;exact eP.1 (show _=(57:UInt8).toNat by simp only[UInt8.reduceToNat];omega)
    iterate 7 refine AX ?_
    refine .p rfl (yR (j-1) U252 Z5 (tm rfl) (tm rfl) aA aA) ?_;refine .e0 (qS Z5 (tm rfl) (yT 48) (oS _ _ _) (by(have:=(apA (ts:=ts) hks (show j≤n by omega)).2;omega))) ?_;try first|rw[sS]|rw[sU aB]
    iterate 9 refine AX ?_
    rw[bpV hks aA hj];refine Round.mk ⟨j-1,by omega,λq h1 h2=>by rcases bV q j with h|h;rw[show q=j-1 by omega];exact h57;exact h9 q h h2,rfl,rfl,rfl⟩ (zF rfl (zF rfl (zF rfl (zF rfl (zU rfl (by congr 1;omega) zW))))) (hRa _) aA
   simp only[cA,aT]at hc102;have hne:0<j→(ds.take n).getD (j-1) 0≠57:=λhp h=>hc102.elim (λq=>q aA) (λq=>q (by rw[baH (ts:=ts) hks hp hj,aoA,h];rfl));have htr:=arO (l:=ds.take n) (c:=57) aA (λq h1 h2=>h9 q h1 aA) hne;iterate 11 refine AX ?_
   refine .cx rfl (λhc109=>?_) (λhc109=>?_)
   ·have hj0:j=0:=by omega
    subst hj0;refine .frzU (t:=9) rfl hb27 (apA (ts:=ts) hks (Nat.zero_le _)).2 hcl hcm27 ?_;rw[dX,cP,Nat.sub_zero,List.take_left' bA];refine AX ?_;refine .e rfl (yP U252 Z5 V5 rfl (yT 49) (.inl rfl) ⟨rfl,rfl⟩) ?_;refine AX ?_;refine .s rfl (amN (xs:=[49]) (ys:=List.replicate n 48) U252 U252 Z5 typeInfo5 V5 aC (tm rfl) (tm rfl) (by show _*1≤_;simp only[bA,aX,aY];omega) (by rw[bA];exact hn)) ?_;rintro _ _ ⟨b112,c112,rfl,hb112,hcl112,hcm112,hH⟩;obtain rfl:=hH.symm;iterate 3 refine AX ?_
    refine .mk ⟨b112,c112,[49]++List.replicate n 48,_,by rw[aN aB,bwI htr,hkn],hcl112,hcm112,hb112,rfl,rfl⟩ sX (hRa _)
   have hgr:=baH (ts:=ts) hks (show 1≤j by omega) hj;have hbd:=hkd.at (show j-1<(ds.take n).length by omega);rw[←aoA,←hgr]at hbd;iterate 3 refine AX ?_
   refine .p rfl (yR (j-1) U252 Z5 (tm rfl) (tm rfl) aA aA) ?_;refine .e rfl (aaP G5 (tm rfl) (oS _ _ _) (by(have:=(apA (ts:=ts) hks (show j≤n by omega)).2;omega))) ?_;refine .p rfl (asJ (tm rfl) (yT 1) aA) (.p rfl (yR (j-1) U252 Z5 (tm rfl) (tm rfl) aA aA) ?_);refine .e0 (qS Z5 (tm rfl) (tm rfl) (oS _ _ _) (by(have:=(apA (ts:=ts) hks (show j≤n by omega)).2;omega))) ?_;try first|rw[sS]|rw[sU aB]
   iterate 2 refine AX ?_
   refine .mk ⟨b27,c27,((ds.take n).map UInt8.toNat).take (j-1)++[(((ds.take n).map UInt8.toNat).take j++List.replicate (n-j) 48++ts).getD (j-1) 0+1]++List.replicate (n-j) 48,ts,by rw[aN aB,byQ hkd aA aA htr,hkn,hgr],by rw[aR,aR,aU,bA,aX,aY];omega,hcm27,hb27,rfl,by rw[bkJ hks aA hj]⟩ (zF rfl (zF rfl (zF rfl (zU rfl (by rw[aR,aR,aU,bA,aX,aY];congr 1;omega) zW)))) (hRa _)
  iterate 2 refine AX ?_
  refine .mk ⟨b27,c27,((ds.take n).map UInt8.toNat),ts,by rw[aM (by(rw[hc91];decide))],by omega,hcm27,hb27,rfl,rfl⟩ (zF rfl (zF rfl (zF rfl (zU rfl (by rw[hks]) zW)))) (hRa _)
 rintro _ _ ⟨b,c,zs,ts2,hzs,hzc,hcm,hbz,rfl,rfl⟩;have hne6:=Heap.fresh_ne hbz;iterate 2 refine AX ?_
 refine .p rfl (zA U61 rfl Z4 (tm rfl)) ?_;iterate 2 refine AX ?_
 refine .e rfl (awG (l:=(if upB (ds.drop n)=true then aoC (ds.take n)else ds.take n)) U252 U9 U5 (tm rfl) (oS _ _ _) (by rw[hzs,bQ]) (by rw[dY,buE,List.take_left,hzs,bxF]) (bH hzc hcm)) ?_;refine AX ?_;refine .cl rfl C22 (evs3 rfl rfl rfl) (aeU neg (if upB (ds.drop n)=true then aoC (ds.take n)else ds.take n) _ (by split;exact ahU hkd;exact hkd) (by split<;>omega) (by constructor<;>omega) _) ?_;iterate 6 refine AX ?_
 refine .dropb (aqG hbz _) ?_;refine .frz (t:=6) rfl hb6 ?_;iterate 2 refine AX ?_
 refine⟨?_,rfl⟩;rfl
theorem bfU(neg:Bool)(ds:List UInt8)(e:Int)(n:Nat)(hr:yN ds e=true)(hn:0<n)(hn2:n≤100000):Fn 202 [dA neg ds e,.int .i64 (n:Int),.int .i64 1] (dT (boR neg ds e n)):=by
 intro H;have hk1:(!yN ds e)=false:=by rw[hr];rfl
 have hrl:=yO hr;have hdd:=qK hr;refine .of_body func202 rfl ntmps202 results202 rfl ?_;iterate 3 refine AX ?_
 refine .al zr61 (λb6 hb6=>?_);iterate 6 refine AX ?_
 refine .cl rfl C132 (evs1 rfl) (afL neg ds e (by rw[zN];omega) _) ?_;iterate 22 refine AX ?_
 refine .cond_false (tm rfl) (by exact aP aA) ?_;iterate 5 refine AX ?_
 refine .p rfl (zA U61 rfl Z9 (tm rfl)) ?_;iterate 6 refine AX ?_
 refine .cx rfl (λhc30=>?_) (λhc30=>?_)
 ·iterate 7 refine AX ?_
  refine .frz (t:=6) rfl (hb6) ?_;iterate 3 refine AX ?_
  refine⟨?_,rfl⟩;unfold boR;rw[aK];rfl
 iterate 7 refine AX ?_
 refine .cl rfl call134 (evs3 rfl rfl rfl) (apI neg ds e n hdd hn aA aA aA _) ?_;iterate 6 refine AX ?_
 refine .frz (t:=6) rfl (hb6) ?_;iterate 2 refine AX ?_
 refine⟨?_,rfl⟩;unfold boR;rw[aJ];rfl
end
end Go.Proofs.YteedncdcbgplfaaGreatDoor
