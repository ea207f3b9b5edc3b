import Derived.Test.YteedncdcbgplfaaGreatDoorD1
set_option maxHeartbeats 1000000
namespace Go.Proofs.YteedncdcbgplfaaGreatDoor
open Go.Proofs.Tryz
open Go Go.RowKit
variable{j n:Nat}{ks ts:List Nat}
section
set_option maxRecDepth 100000
def upB(rest:List UInt8):Bool:=decide (53≤(rest.getD 0 0).toNat)
theorem cmp5{rest:List UInt8}(h:rest≠[]):(0:Int)≤Lib.compareBytes rest [53]↔53≤(rest.getD 0 0).toNat:=by
 cases rest with
 |nil=>exact absurd rfl h
 |cons x r=>
  unfold Lib.compareBytes;simp only[eP];have hx:x<53↔x.toNat<53:=UInt8.lt_iff_toNat_lt;have hy:53<x↔53<x.toNat:=UInt8.lt_iff_toNat_lt;split
  ·rename_i h1;have:=hx.1 h1;omega
  rename_i h1
  have h1':¬x.toNat<53:=λq=>h1 (hx.2 q);split
  ·omega
  cases r with
  |nil=>unfold Lib.compareBytes;omega
  |cons y r=>unfold Lib.compareBytes;omega
def apT(s:List UInt8):List UInt8:=
 if Lib.trimRightB s 57=[]then 49::List.replicate s.length 48
 else(Lib.trimRightB s 57).take ((Lib.trimRightB s 57).length-1)++[UInt8.ofNat (((Lib.trimRightB s 57).getD ((Lib.trimRightB s 57).length-1) 0).toNat+1)]++List.replicate (s.length-(Lib.trimRightB s 57).length) 48
def bpC(neg:Bool)(ds:List UInt8)(e:Int)(n:Nat):(Bool×List UInt8×Int)×Int:=mkN neg (if upB (ds.drop n)=true then apT (ds.take n)else ds.take n) (e+ds.length-n)
def cfY(neg:Bool)(ds:List UInt8)(e:Int)(n:Nat):(Bool×List UInt8×Int)×Int:=if ds.length≤n then((neg,ds,e),0)else bpC neg ds e n
theorem Digs.app{a b:List UInt8}(h:Digs a)(k:Digs b):Digs (a++b):=λx hx=>by
 rcases cN.1 hx with h1|h1
 ·exact h x h1
 exact k x h1
theorem Digs.rep{x:UInt8}(h:isD x):Digs (List.replicate n x):=λy hy=>by rw[fO hy];exact h
theorem Digs.one{x:UInt8}(h:isD x):Digs [x]:=λy hy=>by rw[eU.1 hy];exact h
theorem ceM {s : List UInt8} (hd : Digs s) (h : Lib.trimRightB s 57 ≠ []) : 48 ≤ ((Lib.trimRightB s 57).getD ((Lib.trimRightB s 57).length - 1) 0).toNat ∧ ((Lib.trimRightB s 57).getD ((Lib.trimRightB s 57).length - 1) 0).toNat < 57 := by
 have hp := bV.2 h
 have h1 := (hd.trimR 57).at (p := (Lib.trimRightB s 57).length - 1) aA
 have h2 := auL h
 refine ⟨h1.1, ?_⟩
 rcases bX ((Lib.trimRightB s 57).getD ((Lib.trimRightB s 57).length - 1) 0).toNat 57 with q | q
 ·exact q
 exact absurd (fK.1 (show _ = (57 : UInt8).toNat by simp only [UInt8.reduceToNat]; omega)) h2

theorem ahP{s:List UInt8}(hd:Digs s):Digs (apT s):=by
 unfold apT;split
 ·exact Digs.app (a:=[49]) (Digs.one (by unfold isD;decide)) (Digs.rep (by unfold isD;decide))
 rename_i h
 obtain⟨h1,h2⟩:=ceM hd h;refine Digs.app (Digs.app ((hd.trimR 57).take _) (Digs.one ?_)) (Digs.rep (by unfold isD;decide));unfold isD;rw[gB];omega
theorem akB(s:List UInt8):(apT s).length≤s.length+1:=by
 unfold apT;have:=afK s 57;split
 ·simp
 rename_i h
 have hp:=bV.2 h;simp only[aO,aV,bE,aW,bG];omega
theorem azW(neg:Bool)(kept rest:List UInt8)(hr:rest≠[]):Fn 275 [.bool neg,.str kept,.str rest,.int .i64 1] (.bool (upB rest)):=by
 intro H;refine .of_body func275 rfl ntmps275 results275 rfl ?_;iterate 12 refine AX ?_
 refine .cond_false (tm rfl) (by exact aS hr) ?_;iterate 5 refine AX ?_
 refine .cl rfl call304 (.cons (tm rfl) (.cons (zO rfl) .nil)) (compareA rest [53] _) ?_;iterate 16 refine AX ?_
 refine .cond_false (tm rfl) aD ?_;iterate 6 refine AX ?_
 refine .cond_true (tm rfl) aD ?_;iterate 11 refine AX ?_
 refine⟨?_,rfl⟩;simp only[yT,upB];congr 1;exact aQ.2 (cmp5 hr)
theorem avV(s:List UInt8)(hd:Digs s)(hl:s.length≤100000):Fn 276 [.str s] (.str (apT s)):=by
 intro H;have htl:=afK s 57;have hml:=zQ;refine .of_body func276 rfl ntmps276 results276 rfl ?_;iterate 8 refine AX ?_
 refine .cl rfl call151 (.cons (tm rfl) (.cons (zO rfl) .nil)) (trimRightA 57 aC s _) ?_;iterate 10 refine AX ?_
 refine .cl rfl C103 (.cons (zO rfl) (evs1 rfl)) (repeatZ 48 _ (s.length-(Lib.trimRightB s 57).length) aA aA _) ?_;iterate 10 refine AX ?_
 refine .cx rfl (λhc14=>?_) (λhc14=>?_)
 ·iterate 3 refine AX ?_
  refine .p rfl (zY (zO rfl) (tm rfl) (by rw[zQ,bE];simp only[aW,bG];omega)) ?_;iterate 6 refine AX ?_
  refine⟨?_,rfl⟩;unfold apT;rw[aN hc14,hc14];rfl
 have htp:=bV.2 hc14;obtain⟨h91,h92⟩:=ceM hd hc14;have htn:(((Lib.trimRightB s 57).length:Int)-1).toNat=(Lib.trimRightB s 57).length-1:=by omega
 rw[←htn]at h91 h92;iterate 3 refine AX ?_
 refine .draw [(0,true),(1,true),(2,true),(3,true),(4,true),(5,true),(6,true),(7,true),(8,true),(9,true),(10,true),(11,true),(12,true),(13,true),(14,true),(15,true)] rfl aE ?_;iterate 10 refine AX ?_
 refine .p rfl rfl (avO (tm rfl) (yB 1) aA) (.p rfl rfl (bbM U5 U9 (tm rfl) aA) (.p rfl rfl (zY (tm rfl) (tm rfl) (by rw[zQ];simp only[aW,bG,aV];omega)) ?_));refine AX ?_;refine .p rfl rfl (zY (tm rfl) (tm rfl) (by rw[zQ];simp only[aO,bE,aW,bG,aV];omega)) ?_;iterate 5 refine AX ?_
 refine⟨?_,rfl⟩;unfold apT;rw[aM hc14,←htn];rfl
theorem bpD(neg:Bool)(ds:List UInt8)(e:Int)(n:Nat)(hd:Digs ds)(hn:0<n)(hn2:n<ds.length)(hl:ds.length≤2000)(he: -200000≤e∧e≤200000):Fn 237 [dA neg ds e,.int .i64 (n:Int),.int .i64 1] (dT (bpC neg ds e n)):=by
 intro H;have hdn:ds.drop n≠[]:=by intro h;have:=congrArg List.length h;simp at this;omega
 have hil:=akB (ds.take n);rw[aV]at hil;have hml:=zQ;refine .of_body func237 rfl ntmps237 results237 rfl ?_;iterate 3 refine AX ?_
 refine .al zr61 (λb6 hb6=>?_);iterate 5 refine AX ?_
 refine .p rfl (zA U61 rfl Z3 (tm rfl)) ?_;refine AX ?_;refine .p rfl (zA U61 rfl Z9 (tm rfl)) ?_;iterate 9 refine AX ?_
 refine .draw [(0,true),(1,true),(2,true),(3,true),(5,true),(6,true),(4,false),(7,true),(8,true),(9,true)] rfl aE ?_;iterate 4 refine AX ?_
 refine .p rfl rfl (zA U61 rfl Z9 (tm rfl)) ?_;refine AX ?_;refine .s rfl rfl (zB C103 (.cons (zO rfl) (evs1 rfl)) (repeatZ 48 _ 0 (by simp only[anA,asK];split<;>split<;>omega) aA _)) ?_;rintro _ _ ⟨rfl,hH⟩;obtain rfl:=hH.symm;refine .p rfl rfl (zY (tm rfl) (tm rfl) (by rw[zQ,bE];omega)) ?_;iterate 11 refine AX ?_
 refine .cond_true (tm rfl) (by exact aU aA) ?_;refine .draw [(0,true),(1,true),(2,true),(3,true),(4,true),(5,true),(6,true),(7,true),(8,true),(9,true)] rfl aE ?_;refine .p rfl rfl (zA U61 rfl Z9 (tm rfl)) ?_;iterate 3 refine AX ?_
 refine .p rfl rfl (zA U61 rfl Z9 (tm rfl)) ?_;iterate 7 refine AX ?_
 refine .seqToL [(9,.str (if upB (ds.drop n)=true then apT (ds.take n)else ds.take n))] [3,6,7,8] ?_ ?_
 ·iterate 2 refine AX ?_
  refine .p rfl (zA U61 rfl Z4 (tm rfl)) ?_;iterate 4 refine AX ?_
  refine .cl rfl call275 (.cons (tm rfl) (evs3 rfl rfl rfl)) (azW neg _ _ hdn _) ?_;iterate 2 refine AX ?_
  refine .cx rfl (λhc42=>?_) (λhc42=>?_)
  ·iterate 2 refine AX ?_
   refine .cl rfl call276 (evs1 rfl) (avV (ds.take n) (hd.take n) (by rw[aV];omega) _) ?_;iterate 2 refine AX ?_
   exact⟨rfl,(zR rfl (by(rw[aN (show upB (ds.drop n)=true from hc42)];done)) sX),rfl⟩
  refine AX ?_;exact⟨rfl,(zR rfl (by(rw[aM (show¬upB (ds.drop n)=true from by first|exact hc42|(intro q;rw[show upB (ds.drop n)=false from hc42]at q;cases q))];rfl)) sX),rfl⟩
 refine .sub [(9,_),(3,_),(6,_),(7,_),(8,_)] sX ?_;iterate 2 refine AX ?_
 refine .p rfl (zA U61 rfl Z4 (tm rfl)) ?_;iterate 3 refine AX ?_
 refine .cl rfl C71 (evs3 rfl rfl rfl) (akK neg (if upB (ds.drop n)=true then apT (ds.take n)else ds.take n) _ (by split;exact ahP (hd.take n);exact hd.take n) (by split;omega;rw[aV];omega) (by constructor<;>omega) _) ?_;iterate 6 refine AX ?_
 refine .frz (t:=6) rfl (hb6) ?_;iterate 2 refine AX ?_
 refine⟨?_,rfl⟩;rfl
theorem bwX(neg:Bool)(ds:List UInt8)(e:Int)(n:Nat)(hr:yE ds e=true)(hn:0<n)(hn2:n≤100000):Fn 164 [dA neg ds e,.int .i64 (n:Int),.int .i64 1] (dT (cfY neg ds e n)):=by
 intro H;have hk1:(!yE ds e)=false:=by rw[hr];rfl
 have hrl:=yX hr;have hdd:=qC hr;refine .of_body func164 rfl ntmps164 results164 rfl ?_;iterate 3 refine AX ?_
 refine .al zr61 (λb6 hb6=>?_);iterate 8 refine AX ?_
 refine .cl rfl C152 (evs1 rfl) (adW neg ds e hdd _) ?_;iterate 16 refine AX ?_
 refine .cond_false (tm rfl) (by exact aS aA) ?_;iterate 3 refine AX ?_
 refine .p rfl (zA U61 rfl Z9 (tm rfl)) ?_;iterate 6 refine AX ?_
 refine .cx rfl (λhc25=>?_) (λhc25=>?_)
 ·iterate 7 refine AX ?_
  refine .frz (t:=6) rfl (hb6) ?_;iterate 4 refine AX ?_
  refine⟨?_,rfl⟩;unfold cfY;rw[aK];rfl
 iterate 8 refine AX ?_
 refine .cl rfl call237 (evs3 rfl rfl rfl) (bpD neg ds e n hdd hn aA aA aA _) ?_;iterate 6 refine AX ?_
 refine .frz (t:=6) rfl (hb6) ?_;iterate 2 refine AX ?_
 refine⟨?_,rfl⟩;unfold cfY;rw[aJ];rfl
end
section
open Go Go.RowKit
set_option maxRecDepth 100000
theorem bwO(s:List UInt8)(k:Nat):s.map bv++List.replicate k (.int .u8 0)=U .u8 (s.map UInt8.toNat++List.replicate k 0):=by
 rw[←azJ];unfold U;rw[List.map_map,fC];rfl
theorem cjD(l:List UInt8):U .u8 (l.map UInt8.toNat)=l.map bv:=by
 unfold U;rw[List.map_map];rfl
def apK(rest:List UInt8):Int:=if rest=[53]then 0 else if(decide ((53:Int)<(((rest.getD 0 0).toNat:Nat):Int))||(decide ((((rest.getD 0 0).toNat:Nat):Int)=53)&&decide ((1:Int)<(rest.length:Int))))=true then 1 else-1
theorem bvC{rest:List UInt8}(h:rest≠[]):decide ((0:Int)≤apK rest)=upB rest:=by
 unfold apK upB;apply aQ.2;cases rest with
 |nil=>exact absurd rfl h
 |cons x r=>
  simp only[eP];split
  ·rename_i h1
   have:x=53:=by simp at h1;exact h1.1
   rw[this];decide
  rename_i h1
  have h2:x.toNat=53→r≠[]:=λq q2=>h1 (by rw[q2,fK.1 (show x.toNat=(53:UInt8).toNat from q)]);split
  ·rename_i h3
   simp only[dB,bN,aT]at h3;omega
  rename_i h3
  simp only[dB,bN,aT,not_or,not_and]at h3;constructor
  ·intro q;omega
  intro q;have h4:x.toNat=53:=by omega
  have h5:=bV.2 (h2 h4);have h6:=h3.2 aA;simp only[aW]at h6;omega
theorem beM(hk:ks.length=n)(h1:1≤j)(hj:j≤n):(ks.take j++List.replicate (n-j) 48++ts).getD (j-1) 0=ks.getD (j-1) 0:=by
 rw[bK,aP,cV (by rw[aV];omega),List.getElem?_take_of_lt aA,aP]
theorem brX(hk:ks.length=n)(h1:1≤j)(hj:j≤n)(v:Nat):(ks.take j++List.replicate (n-j) 48++ts).set (j-1) v=(ks.take (j-1)++[v]++List.replicate (n-j) 48)++ts:=by
 have e:ks.take j=ks.take (j-1)++[ks[j-1]'aA]:=by
  rw[cI aA,show j-1+1=j by omega]
 rw[bK,List.set_append_left _ _ (by rw[aV];omega),e,List.set_append_right _ _ (by rw[aV];omega),aV,show j-1-min (j-1) ks.length=0 by omega];simp
theorem byY(hk:ks.length=n)(h1:1≤j)(hj:j≤n):(ks.take j++List.replicate (n-j) 48++ts).set (j-1) 48=ks.take (j-1)++List.replicate (n-(j-1)) 48++ts:=by
 rw[brX hk h1 hj,show n-(j-1)=(n-j)+1 by omega,eY];simp
theorem aqW(hk:ks.length=n)(hj:j≤n):(ks.take j++List.replicate (n-j) 48).length=n∧n≤(ks.take j++List.replicate (n-j) 48++ts).length:=by
 simp only[aO,aV,bE];omega
theorem apS{s:List UInt8}{q:Nat}:(s.map UInt8.toNat).getD q 0=(s.getD q 0).toNat:=by
 rw[aP,aP,cT];cases s[q]?<;>rfl
theorem chV{s:List UInt8}(h:Lib.trimRightB s 57=[]):(apT s).map UInt8.toNat=[49]++List.replicate s.length 48:=by
 unfold apT;rw[aN h];simp
theorem clC{s:List UInt8}(hd:Digs s)(h1:1≤j)(hj:j≤s.length)(h:Lib.trimRightB s 57=s.take j):(apT s).map UInt8.toNat=(s.map UInt8.toNat).take (j-1)++[(s.map UInt8.toNat).getD (j-1) 0+1]++List.replicate (s.length-j) 48:=by
 have hl:(s.take j).length=j:=by rw[aV];omega
 unfold apT;rw[h,aM (λq=>by rw[q]at hl;simp at hl;omega),hl,List.take_take,cZ aA,apS];have e:(s.take j).getD (j-1) 0=s.getD (j-1) 0:=by
  rw[aP,List.getElem?_take_of_lt aA,aP]
 have hb:=hd.at (show j-1<s.length by omega);rw[e];simp only[eS,List.map_take,dX,List.map_nil,fC];congr 2
 ·congr 2
  rw[gB];omega
theorem asN{H:Heap}{b c:Nat}{x:AObj}(h:(H.set b x).objs c=none)(x':AObj):(H.set b x').objs c=none:=fS h x'
def cdX(neg:Bool)(ds:List UInt8)(e:Int)(n b6 b c:Nat)(ts:List Nat)(H:Heap):Nat→Env→Heap→Prop:=λk env H1=>∃j:Nat,j≤n∧(∀q,j≤q→q<n→(ds.take n).getD q 0=57)∧env=[(3,.iptr [.bool neg,.str ds,.int .i64 e]),(6,.ptr (some ⟨b6,0,none⟩)),(8,.int .i64 (e+(ds.length:Int)-(n:Int))),(9,.mslice (some ⟨b,0,none⟩) n c),(14,.int .i64 ((j:Int)-1))]∧H1=(H.set b6 (.box 61 [.bool false,.str [],.int .i64 0])).set b (.box 5 (U .u8 (((ds.take n).map UInt8.toNat).take j++List.replicate (n-j) 48++ts)))∧k=j
theorem beU(neg:Bool)(ds:List UInt8)(e:Int)(n:Nat)(hd:Digs ds)(hn:0<n)(hn2:n<ds.length)(hl:ds.length≤2000)(he: -200000≤e∧e≤200000):Fn 134 [dA neg ds e,.int .i64 (n:Int),.int .i64 1] (dT (bpC neg ds e n)):=by
 intro H;have hdn:ds.drop n≠[]:=by intro h;have:=congrArg List.length h;simp at this;omega
 have hup:=bvC hdn;have hil:=akB (ds.take n);have hkn:(ds.take n).length=n:=by rw[aV];omega
 have hks:((ds.take n).map UInt8.toNat).length=n:=by rw[cE,hkn]
 have hml:=zQ;have hnp:decide ((0:Int)<(n:Int))=true:=aU aA;have hdp:=bV.2 hdn;have hkd:=hd.take n;refine .of_body func134 rfl ntmps134 results134 rfl ?_;iterate 3 refine AX ?_
 refine .al zr61 (λb6 hb6=>?_);iterate 5 refine AX ?_
 refine .p rfl (zA U61 rfl Z3 (tm rfl)) ?_;refine AX ?_;refine .p rfl (zA U61 rfl Z9 (tm rfl)) ?_;iterate 10 refine AX ?_
 refine .p rfl (zA U61 rfl Z9 (tm rfl)) ?_;iterate 3 refine AX ?_
 refine .s rfl (auP U9 U252 U5 (tm rfl) (by(rw[aV];omega))) ?_;rintro _ _ ⟨b27,c27,rfl,hcl27,hcm27,hb27,hH⟩;obtain rfl:=hH.symm;iterate 4 refine AX ?_
 have hcl:n≤c27:=by rw[←hkn];exact hcl27
 rw[bwO,show((n:Int)).toNat=n from rfl,hkn];generalize hts:List.replicate (c27-n) 0=ts;have hrow0:((ds.take n).map UInt8.toNat)++ts=((ds.take n).map UInt8.toNat).take n++List.replicate (n-n) 48++ts:=by rw[aY (l:=((ds.take n).map UInt8.toNat)) (Nat.le_of_eq hks),Nat.sub_self,List.replicate_zero,bU]
 refine AX ?_;refine .p rfl (zA U61 rfl Z9 (tm rfl)) ?_;iterate 7 refine AX ?_
 rw[show((n:Int)).toNat=n from rfl];iterate 4 refine AX ?_
 refine .seqToL [(11,.int .i64 (apK (ds.drop n)))] [1,2,3,6,7,8,9,10] ?_ ?_
 ·iterate 6 refine AX ?_
  refine .cond_true (tm rfl) (by show(!decide (ds.drop n=[]))=true;rw[aS hdn];rfl) ?_;iterate 5 refine AX ?_
  refine .seqToL [(11,.int .i64 (if(decide ((53:Int)<((((ds.drop n).getD 0 0).toNat:Nat):Int))||(decide (((((ds.drop n).getD 0 0).toNat:Nat):Int)=53)&&decide ((1:Int)<((ds.drop n).length:Int))))=true then 1 else-1))] [1,2,3,6,7,8,9,10] ?_ ?_
  ·refine .seqTo 46 (.bool ((decide ((53:Int)<((((ds.drop n).getD 0 0).toNat:Nat):Int))||(decide (((((ds.drop n).getD 0 0).toNat:Nat):Int)=53)&&decide ((1:Int)<((ds.drop n).length:Int)))))) [1,2,3,6,7,8,9,10,11] ?_ ?_
   ·iterate 3 refine AX ?_
    iterate 2 refine AM ?_
    refine zD (t:=37) rfl (λhg37=>?_) (λhg37=>?_)
    ·have hh37:=hg37;try simp only[aT]at hh37
     iterate 10 refine AX ?_
     exact⟨rfl,zS rfl (by(rw[show decide ((53:Int)<((((ds.drop n).getD 0 0).toNat:Nat):Int))=_ from hg37];rfl)) sX,rfl⟩
    have hh37:=hg37;try simp only[aR,cU]at hh37
    iterate 2 refine AX ?_
    iterate 2 refine AM ?_
    refine zD (t:=41) rfl (λhg41=>?_) (λhg41=>?_)
    ·have hh41:=hg41;try simp only[aT]at hh41
     iterate 6 refine AX ?_
     exact⟨rfl,zS rfl (by(rw[show decide ((53:Int)<((((ds.drop n).getD 0 0).toNat:Nat):Int))=_ from hg37,show decide (((((ds.drop n).getD 0 0).toNat:Nat):Int)=53)=_ from hg41];rfl)) sX,rfl⟩
    have hh41:=hg41;try simp only[aR]at hh41
    iterate 6 refine AX ?_
    exact⟨rfl,zS rfl (by(rw[show decide ((53:Int)<((((ds.drop n).getD 0 0).toNat:Nat):Int))=_ from hg37,show decide (((((ds.drop n).getD 0 0).toNat:Nat):Int)=53)=_ from hg41];rfl)) sX,rfl⟩
   refine .sub [(46,_),(1,_),(2,_),(3,_),(6,_),(7,_),(8,_),(9,_),(10,_),(11,_)] sX ?_;refine .cx rfl (λhc46=>?_) (λhc46=>?_)
   ·iterate 3 refine AX ?_
    exact⟨rfl,(zR rfl (by(rw[aN hc46];done)) sX),rfl⟩
   refine AX ?_;exact⟨rfl,(zR rfl (by(rw[aM (by rw[hc46];decide)];done)) sX),rfl⟩
  refine .sub [(11,_),(1,_),(2,_),(3,_),(6,_),(7,_),(8,_),(9,_),(10,_)] sX ?_;iterate 6 refine AX ?_
  refine .cx rfl (λhc48=>?_) (λhc48=>?_)
  ·iterate 3 refine AX ?_
   exact⟨rfl,(zR rfl (by unfold apK;first|(rw[aN (show ds.drop n=[53]from hc48)];done)|(rw[aM (show¬ds.drop n=[53]from hc48)];done)) sX),rfl⟩
  refine AX ?_;exact⟨rfl,(zR rfl (by unfold apK;first|(rw[aN (show ds.drop n=[53]from hc48)];done)|(rw[aM (show¬ds.drop n=[53]from hc48)];done)) sX),rfl⟩
 refine .sub [(11,_),(1,_),(2,_),(3,_),(6,_),(7,_),(8,_),(9,_),(10,_)] sX ?_;refine .seqTo 12 (.bool (decide (((((ds.take n).map UInt8.toNat)++ts).getD (n-1) 0%2:Nat)=(1:Int)))) [11,1,2,3,6,7,8,9,10] ?_ ?_
 ·iterate 7 refine AX ?_
  refine .gp rfl rfl rfl aB (yG (n-1) U252 Z5 (tm rfl) (tm rfl) aA aA) (.gs rfl rfl rfl aB (qJ G5 (tm rfl) (oS _ _ _) (by(rw[aO,cE,aV];omega))) ?_);rintro _ _ ⟨rfl,hH⟩;obtain rfl:=hH.symm;iterate 5 refine AM ?_
  exact⟨rfl,zS rfl aD sX,rfl⟩
 refine .sub [(12,_),(11,_),(1,_),(2,_),(3,_),(6,_),(7,_),(8,_),(9,_),(10,_)] sX ?_;iterate 18 refine AX ?_
 refine .cond_false (tm rfl) aD ?_;iterate 6 refine AX ?_
 refine .cond_true (tm rfl) aD ?_;iterate 7 refine AX ?_
 refine .meet (λenv H2=>∃(b c:Nat)(zs ts:List Nat),zs=(if upB (ds.drop n)=true then apT (ds.take n)else ds.take n).map UInt8.toNat∧zs.length≤c∧c≤maxLen∧(H.set b6 (.box 61 [.bool false,.str [],.int .i64 0])).objs b=none∧env=[(3,.iptr [.bool neg,.str ds,.int .i64 e]),(6,.ptr (some ⟨b6,0,none⟩)),(8,.int .i64 (e+(ds.length:Int)-(n:Int))),(9,.mslice (some ⟨b,0,none⟩) zs.length c)]∧H2=(H.set b6 (.box 61 [.bool false,.str [],.int .i64 0])).set b (.box 5 (U .u8 (zs++ts)))) ?_ ?_
 ·refine .seqTo 91 (.bool (upB (ds.drop n))) [1,3,6,7,8,9] ?_ ?_
  ·iterate 3 refine AX ?_
   refine zD (t:=88) rfl (λhg88=>?_) (λhg88=>?_)
   ·have hh88:=hg88;try simp only[aT]at hh88
    iterate 4 refine AX ?_
    exact⟨rfl,zS rfl (by(rw[←hup,show decide ((0:Int)≤apK (ds.drop n))=_ from hg88];show(!decide (ds.drop n=[]))=true;rw[aS hdn];rfl)) sX,rfl⟩
   have hh88:=hg88;try simp only[aR,Int.not_le]at hh88
   iterate 4 refine AX ?_
   exact⟨rfl,zS rfl (by(rw[←hup,show decide ((0:Int)≤apK (ds.drop n))=_ from hg88];done)) sX,rfl⟩
  refine .sub [(91,_),(1,_),(3,_),(6,_),(7,_),(8,_),(9,_)] sX ?_;refine .cx rfl (λhc91=>?_) (λhc91=>?_)
  ·iterate 9 refine AX ?_
   refine .loopW (cdX neg ds e n b6 b27 c27 ts H) (n) ⟨n,aZ _,λq h1 h2=>by omega,rfl,by rw[hrow0],rfl⟩ sX (hRa _) ?_;rintro _ _ _ ⟨j,hj,h9,rfl,rfl,hk⟩;refine AX ?_;refine .seqTo 102 (.bool (decide ((0:Int)≤(j:Int)-1)&&decide ((((((ds.take n).map UInt8.toNat).take j++List.replicate (n-j) 48++ts).getD (j-1) 0:Nat):Int)=((57:Nat):Int)))) [3,6,8,9,14] ?_ ?_
   ·iterate 4 refine AX ?_
    refine zD (t:=96) rfl (λhg96=>?_) (λhg96=>?_)
    ·have hh96:=hg96;try simp only[aT]at hh96
     iterate 2 refine AX ?_
     refine .gp rfl rfl rfl aB (yG (j-1) U252 Z5 (tm rfl) (tm rfl) aA aA) ?_;refine .gs rfl rfl rfl aB (qJ G5 (tm rfl) (oS _ _ _) (by(have:=(aqW (ts:=ts) hks (show j≤n by omega)).2;omega))) ?_;rintro _ _ ⟨rfl,hH⟩;obtain rfl:=hH.symm;iterate 3 refine AM ?_
     exact⟨rfl,zS rfl (by(rw[show decide ((0:Int)≤(j:Int)-1)=_ from hg96];rfl)) sX,rfl⟩
    have hh96:=hg96;try simp only[aR,Int.not_le]at hh96
    iterate 7 refine AX ?_
    exact⟨rfl,zS rfl (by(rw[show decide ((0:Int)≤(j:Int)-1)=_ from hg96];rfl)) sX,rfl⟩
   refine .sub [(102,_),(3,_),(6,_),(8,_),(9,_),(14,_)] sX ?_;refine .cx rfl (λhc102=>?_) (λhc102=>?_)
   ·simp only[bN,aT]at hc102;obtain⟨hj1,hc102b⟩:=hc102;have hgr:=beM (ts:=ts) hks (show 1≤j by omega) hj;have h57:(ds.take n).getD (j-1) 0=57:=by
     have h:=hc102b;rw[hgr,apS]at h;exact fK.1 (show _=(57:UInt8).toNat by simp only[UInt8.reduceToNat];omega)
    iterate 7 refine AX ?_
    refine .p rfl (yG (j-1) U252 Z5 (tm rfl) (tm rfl) aA aA) ?_;refine .e0 (qE Z5 (tm rfl) (yB 48) (oS _ _ _) (by(have:=(aqW (ts:=ts) hks (show j≤n by omega)).2;omega))) ?_;try first|rw[sS]|rw[sU aB]
    iterate 9 refine AX ?_
    rw[byY hks aA hj];refine Round.mk ⟨j-1,by omega,λq h1 h2=>by rcases bX q j with h|h;rw[show q=j-1 by omega];exact h57;exact h9 q h h2,rfl,rfl,rfl⟩ (zK rfl (zK rfl (zK rfl (zK rfl (zR rfl (by congr 1;omega) yF))))) (hRa _) aA
   simp only[cJ,aR]at hc102;have hne:0<j→(ds.take n).getD (j-1) 0≠57:=λhp h=>hc102.elim (λq=>q aA) (λq=>q (by rw[beM (ts:=ts) hks hp hj,apS,h];rfl));have htr:=auK (l:=ds.take n) (c:=57) aA (λq h1 h2=>h9 q h1 aA) hne;iterate 11 refine AX ?_
   refine .cx rfl (λhc109=>?_) (λhc109=>?_)
   ·have hj0:j=0:=by omega
    subst hj0;refine .frzU (t:=9) rfl hb27 (aqW (ts:=ts) hks (Nat.zero_le _)).2 hcl hcm27 ?_;rw[fH,cH,gU,List.take_left' bE];refine AX ?_;refine .e rfl (yJ U252 Z5 V5 rfl (yB 49) (.inl rfl) ⟨rfl,rfl⟩) ?_;refine AX ?_;refine .s rfl (aoM (xs:=[49]) (ys:=List.replicate n 48) U252 U252 Z5 typeInfo5 V5 aC (tm rfl) (tm rfl) (by show _*1≤_;simp only[bE,aW,bG];omega) (by rw[bE];exact hn)) ?_;rintro _ _ ⟨b112,c112,rfl,hb112,hcl112,hcm112,hH⟩;obtain rfl:=hH.symm;iterate 3 refine AX ?_
    refine .mk ⟨b112,c112,[49]++List.replicate n 48,_,by rw[aN aB,chV htr,hkn],hcl112,hcm112,hb112,rfl,rfl⟩ sX (hRa _)
   have hgr:=beM (ts:=ts) hks (show 1≤j by omega) hj;have hbd:=hkd.at (show j-1<(ds.take n).length by omega);rw[←apS,←hgr]at hbd;iterate 3 refine AX ?_
   refine .p rfl (yG (j-1) U252 Z5 (tm rfl) (tm rfl) aA aA) ?_;refine .e rfl (qJ G5 (tm rfl) (oS _ _ _) (by(have:=(aqW (ts:=ts) hks (show j≤n by omega)).2;omega))) ?_;refine .p rfl (avO (tm rfl) (yB 1) aA) (.p rfl (yG (j-1) U252 Z5 (tm rfl) (tm rfl) aA aA) ?_);refine .e0 (qE Z5 (tm rfl) (tm rfl) (oS _ _ _) (by(have:=(aqW (ts:=ts) hks (show j≤n by omega)).2;omega))) ?_;try first|rw[sS]|rw[sU aB]
   iterate 2 refine AX ?_
   refine .mk ⟨b27,c27,((ds.take n).map UInt8.toNat).take (j-1)++[(((ds.take n).map UInt8.toNat).take j++List.replicate (n-j) 48++ts).getD (j-1) 0+1]++List.replicate (n-j) 48,ts,by rw[aN aB,clC hkd aA aA htr,hkn,hgr],by rw[aO,aO,aV,bE,aW,bG];omega,hcm27,hb27,rfl,by rw[brX hks aA hj]⟩ (zK rfl (zK rfl (zK rfl (zR rfl (by rw[aO,aO,aV,bE,aW,bG];congr 1;omega) yF)))) (hRa _)
  iterate 2 refine AX ?_
  refine .mk ⟨b27,c27,((ds.take n).map UInt8.toNat),ts,by rw[aM (by(rw[hc91];decide))],by omega,hcm27,hb27,rfl,rfl⟩ (zK rfl (zK rfl (zK rfl (zR rfl (by rw[hks]) yF)))) (hRa _)
 rintro _ _ ⟨b,c,zs,ts2,hzs,hzc,hcm,hbz,rfl,rfl⟩;have hne6:=Heap.fresh_ne hbz;iterate 2 refine AX ?_
 refine .p rfl (zA U61 rfl Z4 (tm rfl)) ?_;iterate 2 refine AX ?_
 refine .e rfl (baD (l:=(if upB (ds.drop n)=true then apT (ds.take n)else ds.take n)) U252 U9 U5 (tm rfl) (oS _ _ _) (by rw[hzs,cE]) (by rw[dL,ceX,List.take_left,hzs,cjD]) (bC hzc hcm)) ?_;refine AX ?_;refine .cl rfl C22 (evs3 rfl rfl rfl) (acQ neg (if upB (ds.drop n)=true then apT (ds.take n)else ds.take n) _ (by split;exact ahP hkd;exact hkd) (by split<;>omega) (by constructor<;>omega) _) ?_;iterate 6 refine AX ?_
 refine .dropb (asN hbz _) ?_;refine .frz (t:=6) rfl hb6 ?_;iterate 2 refine AX ?_
 refine⟨?_,rfl⟩;rfl
end
end Go.Proofs.YteedncdcbgplfaaGreatDoor
