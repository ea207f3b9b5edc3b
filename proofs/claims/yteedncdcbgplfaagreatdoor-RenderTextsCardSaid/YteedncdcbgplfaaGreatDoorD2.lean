import Derived.Test.YteedncdcbgplfaaGreatDoorD1
set_option maxHeartbeats 1000000
namespace Go.Proofs.YteedncdcbgplfaaGreatDoor
open Go.Proofs.Tryz
open Go Go.RowKit
section
set_option maxRecDepth 100000
def upB(rest:List UInt8):Bool:=decide (53≤(rest.getD 0 0).toNat)
theorem cmp5{rest:List UInt8}(h:rest≠[]):(0:Int)≤Lib.compareBytes rest [53]↔53≤(rest.getD 0 0).toNat:=by
 cases rest with
 |nil=>exact absurd rfl h
 |cons x r=>
  unfold Lib.compareBytes;simp only[eH];have hx:x<53↔x.toNat<53:=UInt8.lt_iff_toNat_lt;have hy:53<x↔53<x.toNat:=UInt8.lt_iff_toNat_lt;split
  ·rename_i h1;have:=hx.1 h1;omega
  rename_i h1
  have h1':¬x.toNat<53:=λq=>h1 (hx.2 q);split
  ·omega
  cases r with
  |nil=>unfold Lib.compareBytes;omega
  |cons y r=>unfold Lib.compareBytes;omega
def awQ(s:List UInt8):List UInt8:=
 if Lib.trimRightB s 57=[]then 49::List.replicate s.length 48
 else(Lib.trimRightB s 57).take ((Lib.trimRightB s 57).length-1)++[UInt8.ofNat (((Lib.trimRightB s 57).getD ((Lib.trimRightB s 57).length-1) 0).toNat+1)]++List.replicate (s.length-(Lib.trimRightB s 57).length) 48
def boG(neg:Bool)(ds:List UInt8)(e:Int)(n:Nat):(Bool×List UInt8×Int)×Int:=mkN neg (if upB (ds.drop n)=true then awQ (ds.take n)else ds.take n) (e+ds.length-n)
def bkP(neg:Bool)(ds:List UInt8)(e:Int)(n:Nat):(Bool×List UInt8×Int)×Int:=if ds.length≤n then((neg,ds,e),0)else boG neg ds e n
theorem Digs.app{a b:List UInt8}(h:Digs a)(k:Digs b):Digs (a++b):=λx hx=>by
 rcases dK.1 hx with h1|h1
 ·exact h x h1
 exact k x h1
theorem Digs.rep{n:Nat}{x:UInt8}(h:isD x):Digs (List.replicate n x):=λy hy=>by rw[eD hy];exact h
theorem Digs.one{x:UInt8}(h:isD x):Digs [x]:=λy hy=>by rw[cU.1 hy];exact h
theorem bjT {s : List UInt8} (hd : Digs s) (h : Lib.trimRightB s 57 ≠ []) : 48 ≤ ((Lib.trimRightB s 57).getD ((Lib.trimRightB s 57).length - 1) 0).toNat ∧ ((Lib.trimRightB s 57).getD ((Lib.trimRightB s 57).length - 1) 0).toNat < 57 := by
 have hp := cG.2 h
 have h1 := (hd.trimR 57).at (p := (Lib.trimRightB s 57).length - 1) aA
 have h2 := amW h
 refine ⟨h1.1, ?_⟩
 rcases bO ((Lib.trimRightB s 57).getD ((Lib.trimRightB s 57).length - 1) 0).toNat 57 with q | q
 ·exact q
 exact absurd (UInt8.toNat_inj.1 (show _ = (57 : UInt8).toNat by simp only [UInt8.reduceToNat]; omega)) h2
theorem ahT{s:List UInt8}(hd:Digs s):Digs (awQ s):=by
 unfold awQ;split
 ·exact Digs.app (a:=[49]) (Digs.one (by unfold isD;decide)) (Digs.rep (by unfold isD;decide))
 rename_i h
 obtain⟨h1,h2⟩:=bjT hd h;refine Digs.app (Digs.app ((hd.trimR 57).take _) (Digs.one ?_)) (Digs.rep (by unfold isD;decide));unfold isD;rw[UInt8.toNat_ofNat'];omega
theorem ajX(s:List UInt8):(awQ s).length≤s.length+1:=by
 unfold awQ;have:=adL s 57;split
 ·simp
 rename_i h
 have hp:=cG.2 h;simp only[aQ,aU,aZ,aW,aY];omega
theorem aqD(neg:Bool)(kept rest:List UInt8)(hr:rest≠[]):Fn 275 [.bool neg,.str kept,.str rest,.int .i64 1] (.bool (upB rest)):=by
 intro H;refine .of_body func275 rfl ntmps275 results275 rfl ?_;iterate 12 refine AX ?_
 refine .cond_false (tm rfl) (by exact aO hr) ?_;iterate 5 refine AX ?_
 refine .cl rfl call304 (.cons (tm rfl) (.cons (zM rfl) .nil)) (compareA rest [53] _) ?_;iterate 16 refine AX ?_
 refine .cond_false (tm rfl) aD ?_;iterate 6 refine AX ?_
 refine .cond_true (tm rfl) aD ?_;iterate 11 refine AX ?_
 refine⟨?_,rfl⟩;simp only[yN,upB];congr 1;exact aN.2 (cmp5 hr)
theorem anQ(s:List UInt8)(hd:Digs s)(hl:s.length≤100000):Fn 276 [.str s] (.str (awQ s)):=by
 intro H;have htl:=adL s 57;have hml:=zT;refine .of_body func276 rfl ntmps276 results276 rfl ?_;iterate 8 refine AX ?_
 refine .cl rfl call151 (.cons (tm rfl) (.cons (zM rfl) .nil)) (trimRightA 57 aC s _) ?_;iterate 10 refine AX ?_
 refine .cl rfl C103 (.cons (zM rfl) (evs1 rfl)) (repeatZ 48 _ (s.length-(Lib.trimRightB s 57).length) aA aA _) ?_;iterate 10 refine AX ?_
 refine .cx rfl (λhc14=>?_) (λhc14=>?_)
 ·iterate 3 refine AX ?_
  refine .p rfl (zU (zM rfl) (tm rfl) (by rw[zT,aZ];simp only[aW,aY];omega)) ?_;iterate 6 refine AX ?_
  refine⟨?_,rfl⟩;unfold awQ;rw[aM hc14,hc14];rfl
 have htp:=cG.2 hc14;obtain⟨h91,h92⟩:=bjT hd hc14;have htn:(((Lib.trimRightB s 57).length:Int)-1).toNat=(Lib.trimRightB s 57).length-1:=by omega
 rw[←htn]at h91 h92;iterate 3 refine AX ?_
 refine .draw [(0,true),(1,true),(2,true),(3,true),(4,true),(5,true),(6,true),(7,true),(8,true),(9,true),(10,true),(11,true),(12,true),(13,true),(14,true),(15,true)] rfl aE ?_;iterate 10 refine AX ?_
 refine .p rfl rfl (ayH (tm rfl) (yQ 1) aA) (.p rfl rfl (arE U5 U9 (tm rfl) aA) (.p rfl rfl (zU (tm rfl) (tm rfl) (by rw[zT];simp only[aW,aY,aU];omega)) ?_));refine AX ?_;refine .p rfl rfl (zU (tm rfl) (tm rfl) (by rw[zT];simp only[aQ,aZ,aW,aY,aU];omega)) ?_;iterate 5 refine AX ?_
 refine⟨?_,rfl⟩;unfold awQ;rw[aL hc14,←htn];rfl
theorem azI(neg:Bool)(ds:List UInt8)(e:Int)(n:Nat)(hd:Digs ds)(hn:0<n)(hn2:n<ds.length)(hl:ds.length≤2000)(he: -200000≤e∧e≤200000):Fn 237 [dA neg ds e,.int .i64 (n:Int),.int .i64 1] (dT (boG neg ds e n)):=by
 intro H;have hdn:ds.drop n≠[]:=by intro h;have:=congrArg List.length h;simp at this;omega
 have hil:=ajX (ds.take n);rw[aU]at hil;have hml:=zT;refine .of_body func237 rfl ntmps237 results237 rfl ?_;iterate 3 refine AX ?_
 refine .al zr61 (λb6 hb6=>?_);iterate 5 refine AX ?_
 refine .p rfl (zA U61 rfl Z3 (tm rfl)) ?_;refine AX ?_;refine .p rfl (zA U61 rfl Z9 (tm rfl)) ?_;iterate 9 refine AX ?_
 refine .draw [(0,true),(1,true),(2,true),(3,true),(5,true),(6,true),(4,false),(7,true),(8,true),(9,true)] rfl aE ?_;iterate 4 refine AX ?_
 refine .p rfl rfl (zA U61 rfl Z9 (tm rfl)) ?_;refine AX ?_;refine .s rfl rfl (zE C103 (.cons (zM rfl) (evs1 rfl)) (repeatZ 48 _ 0 (by simp only[asQ,arR];split<;>split<;>omega) aA _)) ?_;rintro _ _ ⟨rfl,hH⟩;obtain rfl:=hH.symm;refine .p rfl rfl (zU (tm rfl) (tm rfl) (by rw[zT,aZ];omega)) ?_;iterate 11 refine AX ?_
 refine .cond_true (tm rfl) (by exact aP aA) ?_;refine .draw [(0,true),(1,true),(2,true),(3,true),(4,true),(5,true),(6,true),(7,true),(8,true),(9,true)] rfl aE ?_;refine .p rfl rfl (zA U61 rfl Z9 (tm rfl)) ?_;iterate 3 refine AX ?_
 refine .p rfl rfl (zA U61 rfl Z9 (tm rfl)) ?_;iterate 7 refine AX ?_
 refine .seqToL [(9,.str (if upB (ds.drop n)=true then awQ (ds.take n)else ds.take n))] [3,6,7,8] ?_ ?_
 ·iterate 2 refine AX ?_
  refine .p rfl (zA U61 rfl Z4 (tm rfl)) ?_;iterate 4 refine AX ?_
  refine .cl rfl call275 (.cons (tm rfl) (evs3 rfl rfl rfl)) (aqD neg _ _ hdn _) ?_;iterate 2 refine AX ?_
  refine .cx rfl (λhc42=>?_) (λhc42=>?_)
  ·iterate 2 refine AX ?_
   refine .cl rfl call276 (evs1 rfl) (anQ (ds.take n) (hd.take n) (by rw[aU];omega) _) ?_;iterate 2 refine AX ?_
   exact⟨rfl,(yD rfl (by(rw[aM (show upB (ds.drop n)=true from hc42)];done)) sX),rfl⟩
  refine AX ?_;exact⟨rfl,(yD rfl (by(rw[aL (show¬upB (ds.drop n)=true from by first|exact hc42|(intro q;rw[show upB (ds.drop n)=false from hc42]at q;cases q))];rfl)) sX),rfl⟩
 refine .sub [(9,_),(3,_),(6,_),(7,_),(8,_)] sX ?_;iterate 2 refine AX ?_
 refine .p rfl (zA U61 rfl Z4 (tm rfl)) ?_;iterate 3 refine AX ?_
 refine .cl rfl call71 (evs3 rfl rfl rfl) (aiZ neg (if upB (ds.drop n)=true then awQ (ds.take n)else ds.take n) _ (by split;exact ahT (hd.take n);exact hd.take n) (by split;omega;rw[aU];omega) (by constructor<;>omega) _) ?_;iterate 6 refine AX ?_
 refine .frz (t:=6) rfl (hb6) ?_;iterate 2 refine AX ?_
 refine⟨?_,rfl⟩;rfl
theorem bfA(neg:Bool)(ds:List UInt8)(e:Int)(n:Nat)(hr:yL ds e=true)(hn:0<n)(hn2:n≤100000):Fn 164 [dA neg ds e,.int .i64 (n:Int),.int .i64 1] (dT (bkP neg ds e n)):=by
 intro H;have hk1:(!yL ds e)=false:=by rw[hr];rfl
 have hrl:=yX hr;have hdd:=qO hr;refine .of_body func164 rfl ntmps164 results164 rfl ?_;iterate 3 refine AX ?_
 refine .al zr61 (λb6 hb6=>?_);iterate 8 refine AX ?_
 refine .cl rfl C152 (evs1 rfl) (acX neg ds e hdd _) ?_;iterate 16 refine AX ?_
 refine .cond_false (tm rfl) (by exact aO aA) ?_;iterate 3 refine AX ?_
 refine .p rfl (zA U61 rfl Z9 (tm rfl)) ?_;iterate 6 refine AX ?_
 refine .cx rfl (λhc25=>?_) (λhc25=>?_)
 ·iterate 7 refine AX ?_
  refine .frz (t:=6) rfl (hb6) ?_;iterate 4 refine AX ?_
  refine⟨?_,rfl⟩;unfold bkP;rw[aJ];rfl
 iterate 8 refine AX ?_
 refine .cl rfl call237 (evs3 rfl rfl rfl) (azI neg ds e n hdd hn aA aA aA _) ?_;iterate 6 refine AX ?_
 refine .frz (t:=6) rfl (hb6) ?_;iterate 2 refine AX ?_
 refine⟨?_,rfl⟩;unfold bkP;rw[aI];rfl
end
end Go.Proofs.YteedncdcbgplfaaGreatDoor
