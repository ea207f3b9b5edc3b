import Derived.Test.YteedncdcbgplfaaGreatDoorJ8
set_option maxHeartbeats 1000000
namespace Go.Proofs.YteedncdcbgplfaaGreatDoor
open Go.Proofs.Tryz
open Go Go.RowKit
variable{ds:List UInt8}{neg:Bool}{k places:Int}{m:Nat}
section
set_option maxRecDepth 100000
def aeO(ds:List UInt8)(n:Int):List UInt8:=if 0<n then ds.take n.toNat else []
def aiL(ds:List UInt8)(n:Int):List UInt8:=if 0<n then ds.drop n.toNat else List.replicate (asQ 0 (arR (-n) 1)).toNat 48++ds
def bmZ(neg:Bool)(ds:List UInt8)(e n:Int):(Bool×List UInt8×Int)×Int:=mkN neg (if upB (aiL ds n)=true then awQ (aeO ds n)else aeO ds n) (e+ds.length-n)
theorem bgR{n:Int}(h:n<ds.length)(h0:ds≠[]):aiL ds n≠[]:=by
 unfold aiL;split
 ·intro q;have:=congrArg List.length q;simp at this;omega
 intro q;exact h0 (List.append_eq_nil_iff.1 q).2
theorem bdW(ds:List UInt8)(n:Int):(aeO ds n).length≤ds.length:=by
 unfold aeO;split
 ·rw[aU];omega
 simp
theorem adY(n:Int)(hd:Digs ds):Digs (aeO ds n):=by
 unfold aeO;split
 ·exact hd.take _
 exact λx hx=>by cases hx
def alI(neg:Bool)(ds:List UInt8)(e:Int)(keep:Int):(Bool×List UInt8×Int)×Int:=if ds≠[]∧yC ds e+keep<ds.length then bmZ neg ds e (yC ds e+keep)else((neg,ds,e),0)
theorem azF(neg:Bool)(ds:List UInt8)(e:Int)(n:Int)(hd:Digs ds)(h0:ds≠[])(hn2:n<ds.length)(hn: -1000000≤n)(hl:ds.length≤2000)(he: -200000≤e∧e≤200000):Fn 237 [dA neg ds e,.int .i64 n,.int .i64 1] (dT (bmZ neg ds e n)):=by
 intro H;have hrn:=bgR hn2 h0;have hkl:=bdW ds n;have hil:=ajX (aeO ds n);have hml:=zT;have hrl:(asQ 0 (arR (-n) 1)).toNat≤1:=by unfold asQ arR;split<;>split<;>omega
 refine .of_body func237 rfl ntmps237 results237 rfl ?_;iterate 3 refine AX ?_
 refine .al zr61 (λb6 hb6=>?_);iterate 5 refine AX ?_
 refine .p rfl (zA U61 rfl Z3 (tm rfl)) ?_;refine AX ?_;refine .p rfl (zA U61 rfl Z9 (tm rfl)) ?_;iterate 9 refine AX ?_
 refine .draw [(0,true),(1,true),(2,true),(3,true),(5,true),(6,true),(4,false),(7,true),(8,true),(9,true)] rfl aE ?_;iterate 4 refine AX ?_
 refine .p rfl rfl (zA U61 rfl Z9 (tm rfl)) ?_;refine AX ?_;refine .s rfl rfl (zE C103 (.cons (zM rfl) (evs1 rfl)) (repeatZ 48 _ (asQ 0 (arR (-n) 1)).toNat (by simp only[asQ,arR];split<;>split<;>omega) aA _)) ?_;rintro _ _ ⟨rfl,hH⟩;obtain rfl:=hH.symm;refine .p rfl rfl (zU (tm rfl) (tm rfl) (by rw[zT,aZ];omega)) ?_;iterate 4 refine AX ?_
 refine .seqToL [(9,.str (aeO ds n)),(10,.str (aiL ds n))] [2,3,6,7,8] ?_ ?_
 ·iterate 6 refine AX ?_
  refine .cx rfl (λhc28=>?_) (λhc28=>?_)
  ·refine .draw [(0,true),(1,true),(2,true),(3,true),(4,true),(5,true),(6,true),(7,true),(8,true),(9,true)] rfl aE ?_;refine .p rfl rfl (zA U61 rfl Z9 (tm rfl)) ?_;iterate 3 refine AX ?_
   refine .p rfl rfl (zA U61 rfl Z9 (tm rfl)) ?_;iterate 6 refine AX ?_
   exact⟨rfl,(yD rfl (by(first|unfold aeO|unfold aiL);first|(rw[aM hc28];done)|(rw[aM hc28];rfl)|(rw[aL hc28];rfl)|(rw[aI];done)|(rw[aJ];done)) (yD rfl (by(first|unfold aeO|unfold aiL);first|(rw[aM hc28];done)|(rw[aM hc28];rfl)|(rw[aL hc28];rfl)|(rw[aI];done)|(rw[aJ];done)) sX)),rfl⟩
  refine AX ?_;exact⟨rfl,(yD rfl (by(first|unfold aeO|unfold aiL);first|(rw[aM hc28];done)|(rw[aM hc28];rfl)|(rw[aL hc28];rfl)|(rw[aI];done)|(rw[aJ];done)) (yD rfl (by(first|unfold aeO|unfold aiL);first|(rw[aM hc28];done)|(rw[aM hc28];rfl)|(rw[aL hc28];rfl)|(rw[aI];done)|(rw[aJ];done)) sX)),rfl⟩
 refine .sub [(9,_),(10,_),(2,_),(3,_),(6,_),(7,_),(8,_)] sX ?_;refine .seqToL [(9,.str (if upB (aiL ds n)=true then awQ (aeO ds n)else aeO ds n))] [3,6,7,8] ?_ ?_
 ·iterate 2 refine AX ?_
  refine .p rfl (zA U61 rfl Z4 (tm rfl)) ?_;iterate 4 refine AX ?_
  refine .cl rfl call275 (.cons (tm rfl) (evs3 rfl rfl rfl)) (aqD neg _ _ hrn _) ?_;iterate 2 refine AX ?_
  refine .cx rfl (λhc42=>?_) (λhc42=>?_)
  ·iterate 2 refine AX ?_
   refine .cl rfl call276 (evs1 rfl) (anQ (aeO ds n) (adY n hd) aA _) ?_;iterate 2 refine AX ?_
   exact⟨rfl,(yD rfl (by(rw[show upB (aiL ds n)=true from hc42];rfl)) sX),rfl⟩
  refine AX ?_;exact⟨rfl,(yD rfl (by(rw[show upB (aiL ds n)=false from hc42];rfl)) sX),rfl⟩
 refine .sub [(9,_),(3,_),(6,_),(7,_),(8,_)] sX ?_;iterate 2 refine AX ?_
 refine .p rfl (zA U61 rfl Z4 (tm rfl)) ?_;iterate 3 refine AX ?_
 refine .cl rfl call71 (evs3 rfl rfl rfl) (aiZ neg (if upB (aiL ds n)=true then awQ (aeO ds n)else aeO ds n) _ (by split;exact ahT (adY n hd);exact adY n hd) (by split<;>omega) (by constructor<;>omega) _) ?_;iterate 6 refine AX ?_
 refine .frz (t:=6) rfl (hb6) ?_;iterate 2 refine AX ?_
 refine⟨?_,rfl⟩;rfl
theorem asK(neg:Bool)(ds:List UInt8)(e:Int)(hr:yL ds e=true)(keep:Int)(hk: -100000≤keep∧keep≤100000):Fn 176 [dA neg ds e,.int .i64 keep,.int .i64 1] (dT (alI neg ds e keep)):=by
 intro H;have hk1:(!yL ds e)=false:=by rw[hr];rfl
 have hrl:=yX hr;have hdd:=qO hr;have hpd:yC ds e=(ds.length:Int)+e:=by unfold yC;rw[aM hr]
 have hk2:decide (keep< -100000)=false:=aO aA;have hk3:decide ((100000:Int)<keep)=false:=aO aA;refine .of_body func176 rfl ntmps176 results176 rfl ?_;iterate 3 refine AX ?_
 refine .al zr61 (λb6 hb6=>?_);iterate 7 refine AX ?_
 refine .cl rfl C152 (evs1 rfl) (acX neg ds e hdd _) ?_;iterate 19 refine AX ?_
 refine .cond_false (tm rfl) (by exact aO aA) ?_;iterate 6 refine AX ?_
 refine .cl rfl C88 (evs1 rfl) (abU neg ds e hdd _) ?_;iterate 7 refine AX ?_
 refine .p rfl (zA U61 rfl Z9 (tm rfl)) ?_;iterate 3 refine AX ?_
 refine zB (t:=36) rfl (λhg36=>?_) (λhg36=>?_)
 ·refine AX ?_;refine .gp rfl rfl rfl aB (zA U61 rfl Z9 (tm rfl)) ?_;iterate 6 refine AX ?_
  refine .cx rfl (λhc42=>?_) (λhc42=>?_)
  ·iterate 5 refine AX ?_
   refine .cl rfl call237 (evs3 rfl rfl rfl) (azF neg ds e (yC ds e+keep) hdd (by simpa using hg36) hc42 aA aA aA _) ?_;iterate 6 refine AX ?_
   refine .frz (t:=6) rfl (hb6) ?_;iterate 3 refine AX ?_
   refine⟨?_,rfl⟩;unfold alI;rw[aM ⟨by simpa using hg36,hc42⟩];rfl
  iterate 9 refine AX ?_
  refine .frz (t:=6) rfl (hb6) ?_;iterate 2 refine AX ?_
  refine⟨?_,rfl⟩;unfold alI;rw[aL (λq=>absurd q.2 aA)];rfl
 iterate 8 refine AX ?_
 refine .cond_false (tm rfl) aD ?_;iterate 9 refine AX ?_
 refine .frz (t:=6) rfl (hb6) ?_;iterate 2 refine AX ?_
 refine⟨?_,rfl⟩;unfold alI;rw[aL (λq=>q.1 (by simpa using hg36))];rfl
def abE(ds:List UInt8)(e n:Int):Int:=if ds=[]then e else e+n
def dR(d:Bool×List UInt8×Int):AV:=dA d.1 d.2.1 d.2.2
def abK(neg:Bool)(ds:List UInt8)(e keep:Int):Bool×List UInt8×Int:=(alI neg ds e keep).1
theorem aeC(neg:Bool)(ds:List UInt8)(e n:Int)(he: -1000000≤e∧e≤1000000)(hn: -1000000≤n∧n≤1000000):Fn 96 [dA neg ds e,.int .i64 n] (dA neg ds (abE ds e n)):=by
 intro H;refine .of_body func96 rfl ntmps96 results96 rfl ?_;iterate 2 refine AX ?_
 refine .s rfl (ajS (tm rfl) (.inr ⟨_,rfl⟩)) ?_;rintro _ _ ⟨b2,hb2,rfl,hH⟩;obtain rfl:=hH.symm;refine .al zr61 (λb4 hb4=>?_);have hn2_4:=Heap.ne_of (oS _ _ _) hb4;iterate 5 refine AX ?_
 refine .p rfl (zF U61 rfl Z9 (tm rfl)) ?_;iterate 4 refine AX ?_
 refine .cx rfl (λhc7=>?_) (λhc7=>?_)
 ·refine AX ?_;refine .p rfl (zF U61 rfl Z3 (tm rfl)) ?_;iterate 3 refine AX ?_
  refine .p rfl (zF U61 rfl Z3 (tm rfl)) ?_;iterate 9 refine AX ?_
  refine .frz (t:=4) rfl (fS hb4 _) ?_;refine .dropb (hb2) ?_;iterate 2 refine AX ?_
  refine⟨?_,rfl⟩;unfold abE;rw[aL hc7];rfl
 iterate 8 refine AX ?_
 refine .frz (t:=4) rfl (hb4) ?_;refine .dropb (hb2) ?_;iterate 2 refine AX ?_
 refine⟨?_,rfl⟩;unfold abE;rw[aM hc7];rfl
theorem agJ(neg:Bool)(ds:List UInt8)(e:Int)(hr:yL ds e=true)(keep:Int)(hk: -100000≤keep∧keep≤100000):Fn 98 [dA neg ds e,.int .i64 keep] (dR (abK neg ds e keep)):=by
 intro H;refine .of_body func98 rfl ntmps98 results98 rfl ?_;iterate 2 refine AX ?_
 refine .s rfl (ajS (tm rfl) (.inr ⟨_,rfl⟩)) ?_;rintro _ _ ⟨b2,hb2,rfl,hH⟩;obtain rfl:=hH.symm;refine .al zr61 (λb4 hb4=>?_);have hn2_4:=Heap.ne_of (oS _ _ _) hb4;iterate 6 refine AX ?_
 refine .cl rfl call176 (.cons (tm rfl) (.cons (tm rfl) (.cons zG .nil))) (asK neg ds e hr keep hk _) ?_;iterate 12 refine AX ?_
 refine .frz (t:=4) rfl (fS hb4 _) ?_;refine .dropb (hb2) ?_;iterate 2 refine AX ?_
 exact⟨rfl,rfl⟩
theorem auR(a:Int)(n:Nat)(hn:0<n)(hn2:n≤1000000)(ha: -1000000≤a∧a≤1000000):Fn 175 [.int .i64 a,.int .i64 (n:Int)] (.int .i64 (ajI a n)):=by
 intro H;have hft:=ayX a n hn;have hq0:(a.tdiv n).natAbs≤a.natAbs:=by rw[Int.natAbs_tdiv];exact eM _ _
 refine .of_body func175 rfl ntmps175 results175 rfl ?_;iterate 9 refine AX ?_
 refine .p rfl (bgU (tm rfl) (tm rfl) aA aA) ?_;iterate 8 refine AX ?_
 refine .p rfl (ajV (tm rfl) (tm rfl) aA) ?_;iterate 3 refine AX ?_
 refine .cx rfl (λhc12=>?_) (λhc12=>?_)
 ·iterate 14 refine AX ?_
  refine⟨?_,rfl⟩;rw[hft];rw[aM hc12];rfl
 iterate 10 refine AX ?_
 refine⟨?_,rfl⟩;rw[hft];rw[aI];rfl
end
section
open Go Go.RowKit
set_option maxRecDepth 100000
theorem bbV{e e':Int}(h:yL ds e=true)(h0:ds≠[])(h1: -100000≤e'∧e'≤100000):yL ds e'=true:=by
 unfold yL at *;rw[aL h0]at *;rw[aP h1.1,aP h1.2];simp only[bB]at h ⊢;obtain⟨⟨⟨⟨⟨h1,_⟩,_⟩,h2⟩,h3⟩,h4⟩:=h;exact⟨⟨⟨⟨⟨h1,trivial⟩,trivial⟩,h2⟩,h3⟩,h4⟩
theorem azG{e n:Int}(hd:Digs ds):yL (bmZ neg ds e n).1.2.1 (bmZ neg ds e n).1.2.2=true:=by
 unfold bmZ;refine ajW ?_;split
 ·exact ahT (adY n hd)
 exact adY n hd
theorem adC{e:Int}(h:yL ds e=true):yL (abK neg ds e k).2.1 (abK neg ds e k).2.2=true:=by
 unfold abK alI;split
 ·exact azG (qO h)
 exact h
def amP(p:Int)(m:Nat):Int:=(m:Int)*ajI (p-1) m
def aiG(neg:Bool)(ds:List UInt8)(e:Int)(m:Nat)(places:Int):Int×(Bool×List UInt8×Int):=
 if ds=[]then(0,(neg,ds,e))
 else if(m:Int)<yC (abK neg ds (abE ds e (-amP (yC ds e) m)) places).2.1 (abK neg ds (abE ds e (-amP (yC ds e) m)) places).2.2 then
  (amP (yC ds e) m+m,abK neg ds (abE ds e (-(amP (yC ds e) m+m))) places)
 else(amP (yC ds e) m,abK neg ds (abE ds e (-amP (yC ds e) m)) places)
theorem ayY(x:Int)(m:Nat)(hm:0<m):(m:Int)*ajI x m≤x∧x<m*ajI x m+m:=by
 unfold ajI;have h2:=Int.mul_ediv_add_emod x m;have h3:=Int.emod_nonneg x (show(m:Int)≠0 by omega);have h4:=Int.emod_lt_of_pos x (show(0:Int)<m by omega);generalize(m:Int)*(x/m)=u at *;omega
def baH(l:List ItN)(ex:Nat)(e:Int):List UInt8:=if e<0 then [69,45]else if afZ l ex=[43]then [69,43]else [69]
def bnO(l:List ItN)(ex:Nat)(e:Int):List UInt8:=List.replicate ((aeY l ex l.length).length-(dec e.natAbs).length) 48++dec e.natAbs
def bmV(l:List ItN)(ex:Nat)(e:Int)(q:List Pc):List Pc:=(q.set ex (.fx (baH l ex e))).set ((aeY l ex l.length).getD 0 0) (.fx (bnO l ex e))
theorem apN(p:Int)(m:Nat)(hm:0<m):amP p m≤p-1∧p-1<amP p m+m:=ayY (p-1) m hm
theorem qF{e x:Int}(h:yL ds e=true)(h1: -100000≤e+x∧e+x≤100000):yL ds (abE ds e x)=true:=by
 unfold abE;by_cases h0:ds=[]
 ·rw[aM h0];exact h
 rw[aL h0];exact bbV h h0 h1
theorem bjL{e:Int}(h:ds=[]):aiG neg ds e m places=(0,(neg,ds,e)):=by unfold aiG;rw[aM h]
theorem bjK{e:Int}(h:ds≠[])(h1:(m:Int)<yC (abK neg ds (abE ds e (-amP (yC ds e) m)) places).2.1 (abK neg ds (abE ds e (-amP (yC ds e) m)) places).2.2):aiG neg ds e m places=(amP (yC ds e) m+m,abK neg ds (abE ds e (-(amP (yC ds e) m+m))) places):=by
 unfold aiG;rw[aL h,aM h1]
theorem bjJ{e:Int}(h:ds≠[])(h1:¬(m:Int)<yC (abK neg ds (abE ds e (-amP (yC ds e) m)) places).2.1 (abK neg ds (abE ds e (-amP (yC ds e) m)) places).2.2):aiG neg ds e m places=(amP (yC ds e) m,abK neg ds (abE ds e (-amP (yC ds e) m)) places):=by
 unfold aiG;rw[aL h,aL h1]
theorem bcE(neg:Bool)(ds:List UInt8)(e:Int)(m:Nat)(places:Int)(hm:0<m)(hm2:m≤10000)(hp: -5000≤yC ds e∧yC ds e≤5000): -20000≤(aiG neg ds e m places).1∧(aiG neg ds e m places).1≤20000:=by
 have h:=apN (yC ds e) m hm;unfold aiG;split
 ·simp
 split
 ·show-20000≤amP (yC ds e) m+m∧amP (yC ds e) m+m≤20000;omega
 show-20000≤amP (yC ds e) m∧amP (yC ds e) m≤20000;omega
theorem alR{H:Heap}{b c:Nat}{y:AObj}(h:H.objs c=none)(hc:c≠b):(H.set b y).objs c=none:=(oN _ _ hc).trans h
theorem beC{H:Heap}{b b' c:Nat}{x y:AObj}(h:(H.set b x).objs c=none)(hc:c≠b'):((H.set b' y).set b x).objs c=none:=by
 by_cases e:c=b
 ·subst e;rw[oS]at h;cases h
 rw[oN _ _ e]at h ⊢;exact alR h hc
theorem bdH{a:List Nat}{k:Nat}(h:0<a.length)(hk:a.getD 0 0=k):(a.map bfP)[(0:Int).toNat]?=some (bfP k):=by rw[←hk];exact arM h
theorem alY{n:Nat}(h:n<100000):(dec n).length≤5:=(aeR aC).2 h
def dC(d:Bool×List UInt8×Int):List AV:=[.bool d.1,.str d.2.1,.int .i64 d.2.2]
theorem auF(l:List ItN)(gr:Bool)(sc:Int)(o:Loc)(b n:Nat)(pcs:List Pc)(hl:l.length≤100000)(hnl:n=l.length)(hpn:pcs.length=n)(neg:Bool)(ds:List UInt8)(e:Int)(hr:yL ds e=true)(m:Nat)(hm:0<m)(hm2:m≤10000)(places:Nat)(hpl:places≤10000)(hp: -5000≤yC ds e∧yC ds e≤5000)(ex:Nat)(hex:ex<l.length)(hdg:aeY l ex l.length≠[])(H:Heap)(hb:H.objs b=some (pcR pcs)):ACall prog 97 [.iptr (shC l gr sc o b n),dA neg ds e,.int .i64 (m:Int),.int .i64 (places:Int),.int .i64 (ex:Int)] H (λy H'=>y=dR (aiG neg ds e m places).2∧H'=H.set b (pcR (bmV l ex (aiG neg ds e m places).1 pcs))):=by
 have hfn:=apN (yC ds e) m hm;have hdd:=qO hr;have hrl:=yX hr;have hpe:=qW hr;refine ACall.of_body func97 rfl ntmps97 results97 rfl ?_;iterate 2 refine AX ?_
 refine .e rfl (qA (tm rfl) (.inr ⟨_,rfl⟩)) ?_;refine .al zr61 (λb10 hb10=>?_);iterate 3 refine AX ?_
 refine AWP.draw [(0,true),(1,false),(2,true),(3,false)] rfl aE ?_;refine AX ?_;refine .s rfl rfl (abF zr61) ?_;rintro _ _ ⟨b12,hb12,rfl,hH⟩;obtain rfl:=hH.symm;have hn10_12:=Heap.ne_of (oS _ _ _) hb12;refine AX ?_;refine .s0 rfl (zH Z61 (tm rfl) (tm rfl) rfl rfl (.inr ⟨_,rfl⟩) (oS _ _ _) (lB rfl)) ?_;rintro _ _ ⟨rfl,hH⟩;obtain rfl:=hH.symm;try first|rw[sS]|rw[sU aB]
 iterate 2 refine AX ?_
 refine AWP.meet (λenv H2=>env=[(0,.iptr (shC l gr sc o b n)),(4,.int .i64 (ex:Int)),(10,.ptr (some ⟨b10,0,none⟩)),(11,.int .i64 (aiG neg ds e m places).1),(12,.ptr (some ⟨b12,0,none⟩))]∧H2=(H.set b10 (.box 61 [.bool false,.str [],.int .i64 0])).set b12 (.box 61 (dC (aiG neg ds e m places).2))) ?_ ?_
 ·iterate 2 refine AX ?_
  refine .p rfl (zA U61 rfl Z9 (tm rfl)) ?_;iterate 4 refine AX ?_
  refine AWP.cond (tm rfl) (λhc19=>?_) (λhc19=>?_)
  ·try simp only[aK]at hc19
   iterate 4 refine AX ?_
   refine .cl rfl C88 (evs1 rfl) (abU neg ds e hdd _) ?_;iterate 2 refine AX ?_
   refine .cl rfl call175 (evs2 rfl rfl) (auR _ m hm aA aA _) ?_;have hqe:(m:Int)*ajI (yC ds e-1) m=amP (yC ds e) m:=rfl;iterate 5 refine AX ?_
   rw[hqe];iterate 4 refine AX ?_
   refine .cl rfl C96 (evs2 rfl rfl) (aeC neg ds e _ aA aA _) ?_;refine AX ?_;refine .cl rfl call98 (evs2 rfl rfl) (agJ neg ds _ (qF hr aA) (places:Int) aA _) (.e0 (zH Z61 (tm rfl) (tm rfl) rfl rfl (.inr ⟨_,rfl⟩) (oS _ _ _) (lB rfl)) ?_);try first|rw[sS]|rw[sU aB]
   iterate 4 refine AX ?_
   refine .e rfl (zR G61 Z61 (tm rfl) (oS _ _ _) (lB rfl)) (.cl rfl C88 (evs1 rfl) (abU _ _ _ (qO (adC (qF hr aA))) _) ?_);iterate 4 refine AX ?_
   refine AWP.cond (tm rfl) (λhc36=>?_) (λhc36=>?_)
   ·try simp only[aK]at hc36
    iterate 12 refine AX ?_
    refine .cl rfl C96 (evs2 rfl rfl) (aeC neg ds e _ aA aA _) ?_;refine AX ?_;refine .cl rfl call98 (evs2 rfl rfl) (agJ neg ds _ (qF hr aA) (places:Int) aA _) (.e0 (zH Z61 (tm rfl) (tm rfl) rfl rfl (.inr ⟨_,rfl⟩) (oS _ _ _) (lB rfl)) ?_);try first|rw[sS]|rw[sU aB]
    iterate 2 refine AX ?_
    refine Meets.mk (M:=λenv H2=>env=[(0,.iptr (shC l gr sc o b n)),(4,.int .i64 (ex:Int)),(10,.ptr (some ⟨b10,0,none⟩)),(11,.int .i64 (aiG neg ds e m places).1),(12,.ptr (some ⟨b12,0,none⟩))]∧H2=(H.set b10 (.box 61 [.bool false,.str [],.int .i64 0])).set b12 (.box 61 (dC (aiG neg ds e m places).2))) ⟨by rw[bjK aB hc36]<;>rfl,by rw[bjK aB hc36]<;>rfl⟩ sX (hRa _)
   try simp only[aK]at hc36
   iterate 2 refine AX ?_
   refine Meets.mk (M:=λenv H2=>env=[(0,.iptr (shC l gr sc o b n)),(4,.int .i64 (ex:Int)),(10,.ptr (some ⟨b10,0,none⟩)),(11,.int .i64 (aiG neg ds e m places).1),(12,.ptr (some ⟨b12,0,none⟩))]∧H2=(H.set b10 (.box 61 [.bool false,.str [],.int .i64 0])).set b12 (.box 61 (dC (aiG neg ds e m places).2))) ⟨by rw[bjJ aB aA]<;>rfl,by rw[bjJ aB aA]<;>rfl⟩ sX (hRa _)
  try simp only[aK]at hc19
  iterate 2 refine AX ?_
  refine Meets.mk (M:=λenv H2=>env=[(0,.iptr (shC l gr sc o b n)),(4,.int .i64 (ex:Int)),(10,.ptr (some ⟨b10,0,none⟩)),(11,.int .i64 (aiG neg ds e m places).1),(12,.ptr (some ⟨b12,0,none⟩))]∧H2=(H.set b10 (.box 61 [.bool false,.str [],.int .i64 0])).set b12 (.box 61 (dC (aiG neg ds e m places).2))) ⟨by rw[bjL aB]<;>rfl,by rw[bjL aB]<;>rfl⟩ sX (hRa _)
 rintro _ _ ⟨rfl,rfl⟩;have hnb10:=Heap.ne_of hb hb10;have hn10b:=hnb10.symm;have hnb12:=Heap.ne_of ((oN _ _ hnb10).trans hb) hb12;have hn12b:=hnb12.symm;have hpw:=bcE neg ds e m places hm hm2 hp;generalize aiG neg ds e m places=PW at hpw ⊢;have hd0:0<(aeY l ex l.length).length:=cG.2 hdg;have hdl:=acC l ex l.length;have hdk:(aeY l ex l.length).getD 0 0<l.length:=amE (λk hk=>(abJ.1 hk).1) hd0;obtain⟨kk,hkk⟩:∃kk,(aeY l ex l.length).getD 0 0=kk:=⟨_,rfl⟩;rw[hkk]at hdk;have htn:=alY (n:=PW.1.natAbs) aA;iterate 5 refine AX ?_
 refine AWP.meet (λenv H2=>env=[(0,.iptr (shC l gr sc o b n)),(4,.int .i64 (ex:Int)),(10,.ptr (some ⟨b10,0,none⟩)),(11,.int .i64 PW.1),(12,.ptr (some ⟨b12,0,none⟩)),(13,.str (baH l ex PW.1))]∧H2=(H.set b10 (.box 61 [.bool false,.str [],.int .i64 0])).set b12 (.box 61 (dC PW.2))) ?_ ?_
 ·iterate 8 refine AX ?_
  refine AWP.cond (tm rfl) (λhc46=>?_) (λhc46=>?_)
  ·try simp only[aK]at hc46
   iterate 2 refine AX ?_
   refine .p rfl (zU (tm rfl) (zM rfl) (by simp only[zT,aQ,aW,aY]at *;omega)) ?_;iterate 4 refine AX ?_
   refine Meets.mk (M:=λenv H2=>env=[(0,.iptr (shC l gr sc o b n)),(4,.int .i64 (ex:Int)),(10,.ptr (some ⟨b10,0,none⟩)),(11,.int .i64 PW.1),(12,.ptr (some ⟨b12,0,none⟩)),(13,.str (baH l ex PW.1))]∧H2=(H.set b10 (.box 61 [.bool false,.str [],.int .i64 0])).set b12 (.box 61 (dC PW.2))) ⟨rfl,rfl⟩ (zJ rfl (zJ rfl (zJ rfl (zJ rfl (zJ rfl (yD rfl (by unfold baH;first|(rw[aM (show PW.1<0 by omega)]<;>rfl)|(rw[aL (show¬PW.1<0 by omega),aM ((aaM hex).symm.trans hc51)]<;>rfl)|(rw[aL (show¬PW.1<0 by omega),aL (λq=>hc51 ((aaM hex).trans q))]<;>rfl)) yF)))))) (hRa _)
  try simp only[aK]at hc46
  iterate 4 refine AX ?_
  refine .p rfl (zA U89 rfl Z52 (tm rfl)) (.p rfl (zA U52 rfl Z50 (tm rfl)) ?_);iterate 3 refine AX ?_
  refine .p rfl (zA U57 rfl Z9 (tm rfl)) ?_;iterate 5 refine AX ?_
  refine AWP.cond (tm rfl) (λhc51=>?_) (λhc51=>?_)
  ·try simp only[aK]at hc51
   iterate 2 refine AX ?_
   refine .p rfl (zU (tm rfl) (zM rfl) (by simp only[zT,aQ,aW,aY]at *;omega)) ?_;iterate 4 refine AX ?_
   refine Meets.mk (M:=λenv H2=>env=[(0,.iptr (shC l gr sc o b n)),(4,.int .i64 (ex:Int)),(10,.ptr (some ⟨b10,0,none⟩)),(11,.int .i64 PW.1),(12,.ptr (some ⟨b12,0,none⟩)),(13,.str (baH l ex PW.1))]∧H2=(H.set b10 (.box 61 [.bool false,.str [],.int .i64 0])).set b12 (.box 61 (dC PW.2))) ⟨rfl,rfl⟩ (zJ rfl (zJ rfl (zJ rfl (zJ rfl (zJ rfl (yD rfl (by unfold baH;first|(rw[aM (show PW.1<0 by omega)]<;>rfl)|(rw[aL (show¬PW.1<0 by omega),aM ((aaM hex).symm.trans hc51)]<;>rfl)|(rw[aL (show¬PW.1<0 by omega),aL (λq=>hc51 ((aaM hex).trans q))]<;>rfl)) yF)))))) (hRa _)
  try simp only[aK]at hc51
  iterate 3 refine AX ?_
  refine Meets.mk (M:=λenv H2=>env=[(0,.iptr (shC l gr sc o b n)),(4,.int .i64 (ex:Int)),(10,.ptr (some ⟨b10,0,none⟩)),(11,.int .i64 PW.1),(12,.ptr (some ⟨b12,0,none⟩)),(13,.str (baH l ex PW.1))]∧H2=(H.set b10 (.box 61 [.bool false,.str [],.int .i64 0])).set b12 (.box 61 (dC PW.2))) ⟨rfl,rfl⟩ (zJ rfl (zJ rfl (zJ rfl (zJ rfl (zJ rfl (yD rfl (by unfold baH;first|(rw[aM (show PW.1<0 by omega)]<;>rfl)|(rw[aL (show¬PW.1<0 by omega),aM ((aaM hex).symm.trans hc51)]<;>rfl)|(rw[aL (show¬PW.1<0 by omega),aL (λq=>hc51 ((aaM hex).trans q))]<;>rfl)) yF)))))) (hRa _)
 rintro _ _ ⟨rfl,rfl⟩;iterate 4 refine AX ?_
 refine .p rfl (zA U89 rfl Z87 (tm rfl)) ?_;refine AX ?_;refine .mv rfl rfl (.mv rfl rfl (.p rfl (yO [(0,1)] U145 V145 (zr145) rfl (pl145 _ U145) (.cons (tm rfl) (.inl rfl) .nil) rfl) (.p rfl (qP U145 rfl (tm rfl)) (.p rfl (yH U87 Z147 (tm rfl) (tm rfl) aA aA) (.e0 (yP Pc.av (.fx (baH l ex PW.1)) ex Z147 (tm rfl) (tm rfl) rfl rfl ((oN _ _ aB).trans ((oN _ _ aB).trans aB)) aA aA) ?_)))));try rw[sS]
 iterate 8 refine AX ?_
 refine .p rfl (zA U89 rfl Z52 (tm rfl)) (.p rfl (zA U52 rfl Z50 (tm rfl)) ?_);iterate 2 refine AX ?_
 refine .cl rfl C95 (evs3 rfl rfl rfl) (abM l gr sc o b n hl ex l.length aA (bA _) _) ?_;iterate 9 refine AX ?_
 refine .cl rfl C90 (evs1 rfl) (itoaZ _ PW.1.natAbs (by unfold asQ;split<;>omega) aA _) ?_;iterate 4 refine AX ?_
 refine AWP.draw [(0,true),(1,true),(2,true),(3,true),(4,true),(5,true),(6,true),(7,true),(8,true),(9,true),(10,true),(11,true),(12,true),(14,true),(13,false),(15,true),(16,true),(17,true),(18,true),(19,false)] rfl aE ?_;iterate 2 refine AX ?_
 refine .p rfl rfl (zA U89 rfl Z87 (tm rfl)) ?_;iterate 2 refine AX ?_
 refine .p rfl rfl (qU U30 Z3 (tm rfl) zG aA (bdH hd0 hkk)) ?_;iterate 6 refine AX ?_
 refine .p rfl rfl (alC zG (tm rfl)) (.p rfl rfl (zD (tm rfl)) (.s rfl rfl (zE C103 (.cons (zM rfl) (evs1 rfl)) (repeatZ 48 _ ((aeY l ex l.length).length-(dec PW.1.natAbs).length) (by unfold asQ;split<;>omega) aA _)) ?_));rintro _ _ ⟨rfl,hH⟩;obtain rfl:=hH.symm;refine .p rfl rfl (zU (tm rfl) (tm rfl) (by exact abH (by simp only[aQ,aZ];omega))) (.p rfl rfl (yO [(0,1)] U145 V145 (zr145) rfl (pl145 _ U145) (.cons (tm rfl) (.inl rfl) .nil) rfl) (.p rfl rfl (qP U145 rfl (tm rfl)) (.p rfl rfl (yH U87 Z147 (tm rfl) (tm rfl) aA aA) (.s0 rfl (yP Pc.av (.fx (bnO l ex PW.1)) kk Z147 (tm rfl) (tm rfl) rfl rfl (oS _ _ _) aA (by rw[bX];omega)) ?_))));rintro _ _ ⟨rfl,hH⟩;obtain rfl:=hH.symm;rw[sS];iterate 3 refine AX ?_
 rw[Heap.set_comm hn12b,Heap.set_comm hn10b];have hb12:=beC (y:=pcR ((pcs.set ex (.fx (baH l ex PW.1))).set kk (.fx (bnO l ex PW.1)))) hb12 hn12b;have hb10:=alR (y:=pcR ((pcs.set ex (.fx (baH l ex PW.1))).set kk (.fx (bnO l ex PW.1)))) hb10 hn10b;refine AX ?_;refine .e rfl (zR G61 Z61 (tm rfl) (oS _ _ _) (lB rfl)) (.e0 (zH Z61 (tm rfl) (tm rfl) rfl rfl (.inr ⟨_,rfl⟩) ((oN _ _ aB).trans (oS _ _ _)) (lB rfl)) ?_);try first|rw[sS]|rw[sU aB]
 iterate 2 refine AX ?_
 refine AWP.dropb (fS hb12 _) ?_;refine AWP.frz (t:=10) rfl (hb10) ?_;refine AX ?_;refine Ret.go (.cons (.cellI _ _ _ _ rfl G61 Z61 rfl) .nil) _ (hRa _) ?_;refine⟨rfl,?_⟩;unfold bmV;rw[hkk];rfl
end
section
open Go Go.RowKit
set_option maxRecDepth 100000
theorem aoA(l:List ItN){ks js:List Int}(h:∀k,k∈ks→k∈js):zW l js≤zW l ks:=by
 unfold zW;refine List.findIdx_le_findIdx λx _ hx=>?_;simp only[aV]at *;exact h _ hx
def baI(l:List ItN)(ds:List UInt8)(e:Int):Int:=if zW l [4]<l.length then abE ds e 2 else e
def aiY(l:List ItN):List Nat:=aeY l 0 (zW l [3,5])
def adK(l:List ItN):List Nat:=aeY l (zW l [3,5]) (zW l [5])
def boW(l:List ItN)(neg:Bool)(ds:List UInt8)(e:Int):Int×(Bool×List UInt8×Int):=aiG neg ds (baI l ds e) (max 1 (aiY l).length) ((adK l).length:Int)
def asP(l:List ItN)(sc:Int)(neg:Bool)(ds:List UInt8)(e:Int):Bool×List UInt8×Int:=
 if zW l [5]<l.length then(boW l neg ds e).2 else abK neg ds (abE ds (baI l ds e) (-3*sc)) ((adK l).length:Int)
def bdD(l:List ItN)(neg:Bool)(ds:List UInt8)(e:Int)(q:List Pc):List Pc:=if zW l [5]<l.length then bmV l (zW l [5]) (boW l neg ds e).1 q else q
def bfN(d:Bool×List UInt8×Int)(k:Nat):List UInt8×List UInt8:=acP d.2.1 (yC d.2.1 d.2.2) k
def boV(l:List ItN)(gr:Bool)(o:Loc)(w r:List UInt8)(q:List Pc):List Pc:=
 aaY l (aaW o gr) w true false (aiY l) (if(aiY l).length=0 then(qV l r (aeM l 0 (adK l) (aeB r)) 0 (adK l) q).set (zW l [3,5]) (.fx (w++o.dc))else qV l r (aeM l 0 (adK l) (aeB r)) 0 (adK l) q)
def blM(l:List ItN)(gr:Bool)(sc:Int)(o:Loc)(neg:Bool)(ds:List UInt8)(e:Int)(q:List Pc):List Pc:=
 boV l gr o (bfN (asP l sc neg ds e) (adK l).length).1 (bfN (asP l sc neg ds e) (adK l).length).2 (bdD l neg ds e q)
theorem aeJ(l:List ItN)(row:List UInt8)(la i:Nat)(r:List Nat)(q:List Pc):(qV l row la i r q).length=q.length:=by
 induction r generalizing i q with
 |nil=>rfl
 |cons k r ih=>rw[qV,ih,bX]
theorem apG(l:List ItN)(neg:Bool)(ds:List UInt8)(e:Int)(q:List Pc):(bdD l neg ds e q).length=q.length:=by
 unfold bdD bmV;split<;>simp
theorem blR{e:Int}:(mkN neg ds e).1.2.1=[]∨e≤(mkN neg ds e).1.2.2:=by
 unfold mkN;split
 ·exact .inl rfl
 split
 ·exact .inr (by show e≤e+_;omega)
 exact .inl rfl
theorem aiK{e:Int}(h:yL ds e=true):(abK neg ds e k).2.1=[]∨ -k≤(abK neg ds e k).2.2:=by
 unfold abK alI;rw[qW h];split
 ·unfold bmZ;rcases blR (neg:=neg) (ds:=if upB (aiL ds (ds.length+e+k))=true then awQ (aeO ds (ds.length+e+k))else aeO ds (ds.length+e+k)) (e:=e+ds.length-(ds.length+e+k))with h|h
  ·exact .inl h
  exact .inr aA
 rename_i hn
 by_cases h0:ds=[]
 ·exact .inl h0
 exact .inr (by have:¬(ds.length:Int)+e+k<ds.length:=λq=>hn ⟨h0,q⟩
                show-k≤e;omega)
theorem blB{e:Int}(h:yL ds e=true)(hm:0<m)(hm2:m≤10000)(hp: -5000≤yC ds e∧yC ds e≤5000):yL (aiG neg ds e m k).2.2.1 (aiG neg ds e m k).2.2.2=true∧((aiG neg ds e m k).2.2.1=[]∨ -k≤(aiG neg ds e m k).2.2.2):=by
 have hf:=apN (yC ds e) m hm;have hpe:=qW h;have hl:=yX h;unfold aiG;split
 ·rename_i h0;exact⟨h,.inl h0⟩
 split
 ·exact⟨adC (qF h aA),aiK (qF h aA)⟩
 exact⟨adC (qF h aA),aiK (qF h aA)⟩
theorem asU{e x:Int}(h:yL ds e=true)(h1: -100000≤e+x∧e+x≤100000):yC ds (abE ds e x)=if ds=[]then yC ds e else yC ds e+x:=by
 rw[qW (qF h h1),qW h];unfold abE;split
 ·rfl
 omega
theorem auJ{l:List ItN}{e:Int}(h:yL ds e=true)(hp: -4000≤yC ds e∧yC ds e≤4000):yL ds (baI l ds e)=true∧ -4000≤yC ds (baI l ds e)∧yC ds (baI l ds e)≤4002:=by
 have hpe:=qW h;have hl:=yX h;unfold baI;split
 ·refine⟨qF h aA,?_⟩;rw[asU h aA];split<;>omega
 exact⟨h,hp.1,by omega⟩
theorem bdE{l:List ItN}{sc:Int}{e:Int}(h:yL ds e=true)(hp: -4000≤yC ds e∧yC ds e≤4000)(hl:l.length≤10000)(hsc:0≤sc∧sc≤20000):yL (asP l sc neg ds e).2.1 (asP l sc neg ds e).2.2=true∧((asP l sc neg ds e).2.1=[]∨ -((adK l).length:Int)≤(asP l sc neg ds e).2.2):=by
 obtain⟨h1,h2⟩:=auJ (l:=l) h hp;have hpe:=qW h1;have hll:=yX h1;have ha:(aiY l).length≤l.length:=bK (acC _ _ _) (qZ _ _);unfold asP;split
 ·exact blB h1 aA aA aA
 exact⟨adC (qF h1 aA),aiK (qF h1 aA)⟩
theorem bbE{d:Bool×List UInt8×Int}{k:Nat}(h:yL d.2.1 d.2.2=true)(hx:d.2.1=[]∨ -(k:Int)≤d.2.2):(bfN d k).2.length=k∧(bfN d k).1.length≤101100:=by
 have hp:=qW h;have hl:=yX h;have hx2:d.2.1=[]∨(d.2.1.length:Int)≤yC d.2.1 d.2.2+k:=by rcases hx with h|h;exact .inl h;exact .inr aA
 refine⟨axM hx2,?_⟩;unfold bfN;rw[←bjF hx2];unfold boU;split
 ·simp
 simp only[bR,List.length_range];omega
theorem blC(l:List ItN)(gr:Bool)(sc:Int)(o:Loc)(b n:Nat)(pcs:List Pc)(hl:l.length≤100000)(hnl:n=l.length)(hpn:pcs.length=n)(neg:Bool)(ds:List UInt8)(e:Int)(hr:yL ds e=true)(m:Nat){z:Int}(hz:z=(m:Int))(hm:0<m)(hm2:m≤10000)(places:Nat)(hpl:places≤10000)(hp: -5000≤yC ds e∧yC ds e≤5000)(ex:Nat)(hex:ex<l.length)(hdg:aeY l ex l.length≠[])(H:Heap)(hb:H.objs b=some (pcR pcs)):ACall prog 97 [.iptr (shC l gr sc o b n),dA neg ds e,.int .i64 z,.int .i64 (places:Int),.int .i64 (ex:Int)] H (λy H'=>y=dR (aiG neg ds e m places).2∧H'=H.set b (pcR (bmV l ex (aiG neg ds e m places).1 pcs))):=by
 subst hz;exact auF l gr sc o b n pcs hl hnl hpn neg ds e hr m hm hm2 places hpl hp ex hex hdg H hb
theorem arI(l:List ItN)(gr:Bool)(sc:Int)(o:Loc)(b n:Nat)(pcs:List Pc)(ho:o.ok)(hs2:o.second=2∨o.second=3)(hl:l.length≤10000)(hsc:0≤sc∧sc≤20000)(hnl:n=l.length)(hpn:pcs.length=n)(neg:Bool)(ds:List UInt8)(e:Int)(hr:yL ds e=true)(hp: -4000≤yC ds e∧yC ds e≤4000)(hpt:(aiY l).length=0→zW l [3,5]<l.length)(hdg:zW l [5]<l.length→aeY l (zW l [5]) l.length≠[])(H:Heap)(hb:H.objs b=some (pcR pcs)):ACall prog 39 [.iptr (shC l gr sc o b n),dA neg ds e] H (λy H'=>y= .bool (decide ((asP l sc neg ds e).2.1≠[]))∧H'=H.set b (pcR (blM l gr sc o neg ds e pcs))):=by
 have hc1:=qZ l [3,5];have hc2:=qZ l [5];have hc3:=aoA l (ks:=[5]) (js:=[3,5]) (λk hk=>List.mem_cons_of_mem _ hk);have hrl:=yX hr;have hpe:=qW hr;obtain⟨hr1,hp1⟩:=auJ (l:=l) hr hp;have hpe1:=qW hr1;have hrl1:=yX hr1;have hla:(aiY l).length≤l.length:=bK (acC _ _ _) hc1;have hlb:(adK l).length≤l.length:=bK (acC _ _ _) hc2;have hnok:=bdE (l:=l) (sc:=sc) (neg:=neg) hr hp hl hsc;have hnl2:=yX hnok.1;have hnp:=qW hnok.1;have hsl:=bbE hnok.1 hnok.2;refine ACall.of_body func39 rfl ntmps39 results39 rfl ?_;iterate 2 refine AX ?_
 refine .s rfl (ajS (tm rfl) (.inr ⟨_,rfl⟩)) ?_;rintro _ _ ⟨b3,hb3,rfl,hH⟩;obtain rfl:=hH.symm;iterate 4 refine AX ?_
 have hnb3:=Heap.ne_of hb hb3;have hn3b:=hnb3.symm;iterate 2 refine AX ?_
 refine .e rfl (acB U30 Z3 V3 rfl zG (.inl rfl) ⟨rfl,rfl⟩ zG (.inl rfl) ⟨rfl,rfl⟩) (.e rfl (zE C94 (evs2 rfl rfl) (adD l gr sc o b n aA [3,5] _ aC _)) ?_);refine AX ?_;refine .e rfl (yU U30 Z3 V3 rfl zG (.inl rfl) ⟨rfl,rfl⟩) (.e rfl (zE C94 (evs2 rfl rfl) (adD l gr sc o b n aA [5] _ aC _)) ?_);iterate 8 refine AX ?_
 refine .e rfl (zE C95 (.cons (tm rfl) (.cons zG (evs1 rfl))) (abM l gr sc o b n aA 0 (zW l [3,5]) (Nat.zero_le _) hc1 _)) ?_;iterate 3 refine AX ?_
 refine .e rfl (zE C95 (evs3 rfl rfl rfl) (abM l gr sc o b n aA (zW l [3,5]) (zW l [5]) hc3 hc2 _)) ?_;iterate 4 refine AX ?_
 refine AWP.meet (λenv H2=>env=[(0,.iptr (shC l gr sc o b n)),(3,.ptr (some ⟨b3,0,none⟩)),(5,.int .i64 (zW l [3,5]:Int)),(6,.int .i64 (zW l [5]:Int)),(7,acI (aiY l) .shared),(8,acI (adK l) .shared)]∧H2=(H.set b3 (.box 61 [.bool neg,.str ds,.int .i64 (baI l ds e)]))) ?_ ?_
 ·refine AX ?_;refine AWP.draw [(0,true),(1,true),(3,true),(4,true),(5,true),(6,true),(7,true),(8,true),(2,false),(9,true)] rfl aE ?_;refine AX ?_;refine APlan.f rfl rfl (λ_=>yU U30 Z3 V3 rfl zG (.inl rfl) ⟨rfl,rfl⟩) ?_;iterate 2 refine AX ?_
  refine .p rfl rfl (zA U89 rfl Z52 (tm rfl)) (.p rfl rfl (zA U52 rfl Z50 (tm rfl)) ?_);iterate 2 refine AX ?_
  refine .s rfl rfl (zE C94 (evs2 rfl rfl) (adD l gr sc o b n aA [4] _ aC _)) ?_;rintro _ _ ⟨rfl,hH⟩;obtain rfl:=hH.symm;iterate 3 refine AX ?_
  refine AWP.cond (tm rfl) (λhc33=>?_) (λhc33=>?_)
  ·try simp only[aK]at hc33
   refine AX ?_;refine .e rfl (zR G61 Z61 (tm rfl) (oS _ _ _) (lB rfl)) (.e rfl (zE C96 (.cons (tm rfl) (.cons zG .nil)) (aeC neg ds e 2 aA aA _)) (.e0 (zH Z61 (tm rfl) (tm rfl) rfl rfl (.inr ⟨_,rfl⟩) (oS _ _ _) (lB rfl)) ?_));try first|rw[sS]|rw[sU aB]
   iterate 2 refine AX ?_
   refine Meets.mk (M:=λenv H2=>env=[(0,.iptr (shC l gr sc o b n)),(3,.ptr (some ⟨b3,0,none⟩)),(5,.int .i64 (zW l [3,5]:Int)),(6,.int .i64 (zW l [5]:Int)),(7,acI (aiY l) .shared),(8,acI (adK l) .shared)]∧H2=(H.set b3 (.box 61 [.bool neg,.str ds,.int .i64 (baI l ds e)]))) ⟨rfl,by unfold baI;rw[aJ];rfl⟩ sX (hRa _)
  try simp only[aK]at hc33
  iterate 2 refine AX ?_
  refine Meets.mk (M:=λenv H2=>env=[(0,.iptr (shC l gr sc o b n)),(3,.ptr (some ⟨b3,0,none⟩)),(5,.int .i64 (zW l [3,5]:Int)),(6,.int .i64 (zW l [5]:Int)),(7,acI (aiY l) .shared),(8,acI (adK l) .shared)]∧H2=(H.set b3 (.box 61 [.bool neg,.str ds,.int .i64 (baI l ds e)]))) ⟨rfl,by unfold baI;rw[aI];rfl⟩ sX (hRa _)
 rintro _ _ ⟨rfl,rfl⟩;refine AWP.meet (λenv H2=>env=[(0,.iptr (shC l gr sc o b n)),(3,.ptr (some ⟨b3,0,none⟩)),(5,.int .i64 (zW l [3,5]:Int)),(6,.int .i64 (zW l [5]:Int)),(7,acI (aiY l) .shared),(8,acI (adK l) .shared)]∧H2=(H.set b3 (.box 61 (dC (asP l sc neg ds e)))).set b (pcR (bdD l neg ds e pcs))) ?_ ?_
 ·iterate 5 refine AX ?_
  refine .p rfl (zA U89 rfl Z52 (tm rfl)) (.p rfl (zA U52 rfl Z50 (tm rfl)) ?_);iterate 5 refine AX ?_
  refine AWP.cond (tm rfl) (λhc43=>?_) (λhc43=>?_)
  ·try simp only[aK]at hc43
   iterate 2 refine AX ?_
   refine .e rfl (zR G61 Z61 (tm rfl) (oS _ _ _) (lB rfl)) ?_;iterate 6 refine AX ?_
   refine .e rfl (zE call97 (.cons (tm rfl) (.cons (tm rfl) (evs3 rfl rfl rfl))) (blC l gr sc o b n pcs aA hnl hpn neg ds _ hr1 (max 1 (aiY l).length) (by unfold asQ;split<;>omega) aA aA (adK l).length aA aA (zW l [5]) aA (hdg aA) _ ((oN _ _ hnb3).trans hb))) ?_;refine .e0 (zH Z61 (tm rfl) (tm rfl) rfl rfl (.inr ⟨_,rfl⟩) ((oN _ _ aB).trans (oS _ _ _)) (lB rfl)) ?_;try first|rw[sS]|rw[sU aB]
   iterate 2 refine AX ?_
   refine Meets.mk (M:=λenv H2=>env=[(0,.iptr (shC l gr sc o b n)),(3,.ptr (some ⟨b3,0,none⟩)),(5,.int .i64 (zW l [3,5]:Int)),(6,.int .i64 (zW l [5]:Int)),(7,acI (aiY l) .shared),(8,acI (adK l) .shared)]∧H2=(H.set b3 (.box 61 (dC (asP l sc neg ds e)))).set b (pcR (bdD l neg ds e pcs))) ⟨rfl,by unfold asP bdD;rw[aJ,aJ];rfl⟩ sX (hRa _)
  try simp only[aK]at hc43
  refine AWP.draw [(1,true),(2,true),(3,true),(4,true),(5,true),(6,true),(8,true),(9,true),(0,false),(7,false),(10,false),(11,false)] rfl aE ?_;iterate 2 refine AX ?_
  refine .p rfl rfl (zA U89 rfl Z52 (tm rfl)) (.p rfl rfl (zA U52 rfl Z3 (tm rfl)) ?_);iterate 4 refine AX ?_
  refine .s rfl rfl (zR G61 Z61 (tm rfl) (oS _ _ _) (lB rfl)) ?_;rintro _ _ ⟨rfl,hH⟩;obtain rfl:=hH.symm;refine .s rfl rfl (zE C96 (evs2 rfl rfl) (aeC neg ds _ _ aA aA _)) ?_;rintro _ _ ⟨rfl,hH⟩;obtain rfl:=hH.symm;refine .s rfl rfl (zE call98 (evs2 rfl rfl) (agJ neg ds _ (qF hr1 aA) _ aA _)) ?_;rintro _ _ ⟨rfl,hH⟩;obtain rfl:=hH.symm;refine .s0 rfl (zH Z61 (tm rfl) (tm rfl) rfl rfl (.inr ⟨_,rfl⟩) (oS _ _ _) (lB rfl)) ?_;rintro _ _ ⟨rfl,hH⟩;obtain rfl:=hH.symm;try first|rw[sS]|rw[sU aB]
  iterate 2 refine AX ?_
  refine Meets.mk (M:=λenv H2=>env=[(0,.iptr (shC l gr sc o b n)),(3,.ptr (some ⟨b3,0,none⟩)),(5,.int .i64 (zW l [3,5]:Int)),(6,.int .i64 (zW l [5]:Int)),(7,acI (aiY l) .shared),(8,acI (adK l) .shared)]∧H2=(H.set b3 (.box 61 (dC (asP l sc neg ds e)))).set b (pcR (bdD l neg ds e pcs))) ⟨rfl,by unfold asP bdD;rw[aI,aI];exact(Heap.set_self ((oN _ _ hnb3).trans hb)).symm⟩ sX (hRa _)
 rintro _ _ ⟨rfl,rfl⟩;have hql:=(apG l neg ds e pcs).trans hpn;unfold blM boV bfN;unfold bfN at hsl;generalize asP l sc neg ds e=D at *;generalize bdD l neg ds e pcs=Q1 at *;iterate 2 refine AX ?_
 refine .e rfl (zR G61 Z61 (tm rfl) ((oN _ _ aB).trans (oS _ _ _)) (lB rfl)) ?_;iterate 2 refine AX ?_
 refine .e rfl (zE call99 (evs2 rfl rfl) (ajC _ _ _ (qO hnok.1) aA aA (adK l).length aA _)) ?_;generalize acP D.2.1 (yC D.2.1 D.2.2) (adK l).length=S at hsl ⊢;iterate 12 refine AX ?_
 refine .s rfl (zE call100 (evs3 rfl rfl rfl) (aoO l gr sc o b n S.2 (adK l) Q1 aA hnl hql (λk hk=>by have:=(abJ.1 hk).1;omega) aA aA _ (oS _ _ _))) ?_;rintro _ _ hH;obtain rfl:=hH;rw[sS];iterate 2 refine AX ?_
 refine AWP.meet (λenv H2=>env=[(0,.iptr (shC l gr sc o b n)),(3,.ptr (some ⟨b3,0,none⟩)),(5,.int .i64 (zW l [3,5]:Int)),(6,.int .i64 (zW l [5]:Int)),(7,acI (aiY l) .shared),(8,acI (adK l) .shared),(9,.str S.1)]∧H2=(H.set b3 (.box 61 (dC D))).set b (pcR (if(aiY l).length=0 then(qV l S.2 (aeM l 0 (adK l) (aeB S.2)) 0 (adK l) Q1).set (zW l [3,5]) (.fx (S.1++o.dc))else(qV l S.2 (aeM l 0 (adK l) (aeB S.2)) 0 (adK l) Q1)))) ?_ ?_
 ·iterate 7 refine AX ?_
  refine AWP.cond (tm rfl) (λhc77=>?_) (λhc77=>?_)
  ·try simp only[aK]at hc77
   refine AWP.draw [(0,true),(1,true),(2,true),(3,true),(4,true),(5,true),(6,true),(7,true),(8,true),(9,true),(10,true),(11,true),(12,true),(13,true),(14,true),(15,false)] rfl aE ?_;iterate 2 refine AX ?_
   refine .p rfl rfl (zA U89 rfl Z87 (tm rfl)) ?_;iterate 5 refine AX ?_
   refine .p rfl rfl (zA U89 rfl Z32 (tm rfl)) (.p rfl rfl (zA U32 rfl Z9 (tm rfl)) (.p rfl rfl (zV G9 (tm rfl)) ?_));refine .p rfl rfl (zU (tm rfl) (tm rfl) (by rw[zT];have h1:=ho.1;omega)) ?_;refine .p rfl rfl (yO [(0,1)] U145 V145 (zr145) rfl (pl145 _ U145) (.cons (tm rfl) (.inl rfl) .nil) rfl) (.p rfl rfl (qP U145 rfl (tm rfl)) (.p rfl rfl (yH U87 Z147 (tm rfl) (tm rfl) aA aA) (.s0 rfl (yP Pc.av (.fx (S.1++o.dc)) (zW l [3,5]) Z147 (tm rfl) (tm rfl) rfl rfl (oS _ _ _) aA (by rw[aeJ];omega)) ?_)));rintro _ _ ⟨rfl,hH⟩;obtain rfl:=hH.symm;rw[sS];iterate 2 refine AX ?_
   refine Meets.mk (M:=λenv H2=>env=[(0,.iptr (shC l gr sc o b n)),(3,.ptr (some ⟨b3,0,none⟩)),(5,.int .i64 (zW l [3,5]:Int)),(6,.int .i64 (zW l [5]:Int)),(7,acI (aiY l) .shared),(8,acI (adK l) .shared),(9,.str S.1)]∧H2=(H.set b3 (.box 61 (dC D))).set b (pcR (if(aiY l).length=0 then(qV l S.2 (aeM l 0 (adK l) (aeB S.2)) 0 (adK l) Q1).set (zW l [3,5]) (.fx (S.1++o.dc))else(qV l S.2 (aeM l 0 (adK l) (aeB S.2)) 0 (adK l) Q1)))) ⟨rfl,by rw[aJ];rfl⟩ sX (hRa _)
  try simp only[aK]at hc77
  iterate 2 refine AX ?_
  refine Meets.mk (M:=λenv H2=>env=[(0,.iptr (shC l gr sc o b n)),(3,.ptr (some ⟨b3,0,none⟩)),(5,.int .i64 (zW l [3,5]:Int)),(6,.int .i64 (zW l [5]:Int)),(7,acI (aiY l) .shared),(8,acI (adK l) .shared),(9,.str S.1)]∧H2=(H.set b3 (.box 61 (dC D))).set b (pcR (if(aiY l).length=0 then(qV l S.2 (aeM l 0 (adK l) (aeB S.2)) 0 (adK l) Q1).set (zW l [3,5]) (.fx (S.1++o.dc))else(qV l S.2 (aeM l 0 (adK l) (aeB S.2)) 0 (adK l) Q1)))) ⟨rfl,by rw[aI]⟩ sX (hRa _)
 rintro _ _ ⟨rfl,rfl⟩;have hq2:(if(aiY l).length=0 then(qV l S.2 (aeM l 0 (adK l) (aeB S.2)) 0 (adK l) Q1).set (zW l [3,5]) (.fx (S.1++o.dc))else(qV l S.2 (aeM l 0 (adK l) (aeB S.2)) 0 (adK l) Q1)).length=n:=by split<;>simp only[bX,aeJ]<;>exact hql
 iterate 5 refine AX ?_
 refine .s rfl (zE call101 (evs3 rfl rfl rfl) (afE l gr sc o b n S.1 (aiY l) _ ho hs2 aA hnl hq2 (λk hk=>by have:=(abJ.1 hk).1;omega) aA aA _ (oS _ _ _))) ?_;rintro _ _ hH;obtain rfl:=hH;rw[sS];iterate 3 refine AX ?_
 rw[Heap.set_comm hn3b];have hb3:=alR (y:=pcR []) hb3 hn3b;refine AX ?_;refine .p rfl (zF U61 rfl Z9 (tm rfl)) (.e rfl (zL G9 (tm rfl) (oS _ _ _) rfl) ?_);iterate 4 refine AX ?_
 refine AWP.dropb (fS hb3 _) ?_;refine AX ?_;refine Ret.go (.cons (.tmp _ _ rfl) .nil) _ (hRa _) ?_;refine⟨congrArg AV.bool ?_,rfl⟩;by_cases q:D.2.1=[]<;>simp[q]
end
end Go.Proofs.YteedncdcbgplfaaGreatDoor
