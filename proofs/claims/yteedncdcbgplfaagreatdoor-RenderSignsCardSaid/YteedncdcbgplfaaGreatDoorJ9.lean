import Derived.Test.YteedncdcbgplfaaGreatDoorJ8
set_option maxHeartbeats 1000000
namespace Go.Proofs.YteedncdcbgplfaaGreatDoor
open Go.Proofs.Tryz
open Go Go.RowKit
variable{ds:List UInt8}{neg:Bool}{k places:Int}{m:Nat}
section
set_option maxRecDepth 100000
def afC(ds:List UInt8)(n:Int):List UInt8:=if 0<n then ds.take n.toNat else []
def aiO(ds:List UInt8)(n:Int):List UInt8:=if 0<n then ds.drop n.toNat else List.replicate (asX 0 (asW (-n) 1)).toNat 48++ds
def bhK(neg:Bool)(ds:List UInt8)(e n:Int):(Bool×List UInt8×Int)×Int:=mkN neg (if upB (aiO ds n)=true then aoC (afC ds n)else afC ds n) (e+ds.length-n)
theorem bqB{n:Int}(h:n<ds.length)(h0:ds≠[]):aiO ds n≠[]:=by
 unfold aiO;split
 ·intro q;have:=congrArg List.length q;simp at this;omega
 intro q;exact h0 (List.append_eq_nil_iff.1 q).2
theorem bmV(ds:List UInt8)(n:Int):(afC ds n).length≤ds.length:=by
 unfold afC;split
 ·rw[aU];omega
 simp
theorem agE(n:Int)(hd:Digs ds):Digs (afC ds n):=by
 unfold afC;split
 ·exact hd.take _
 exact λx hx=>by cases hx
def ahN(neg:Bool)(ds:List UInt8)(e:Int)(keep:Int):(Bool×List UInt8×Int)×Int:=if ds≠[]∧yF ds e+keep<ds.length then bhK neg ds e (yF ds e+keep)else((neg,ds,e),0)
theorem bhI(neg:Bool)(ds:List UInt8)(e:Int)(n:Int)(hd:Digs ds)(h0:ds≠[])(hn2:n<ds.length)(hn: -1000000≤n)(hl:ds.length≤2000)(he: -200000≤e∧e≤200000):Fn 237 [dA neg ds e,.int .i64 n,.int .i64 1] (dT (bhK neg ds e n)):=by
 intro H;have hrn:=bqB hn2 h0;have hkl:=bmV ds n;have hil:=akP (afC ds n);have hml:=zN;have hrl:(asX 0 (asW (-n) 1)).toNat≤1:=by unfold asX asW;split<;>split<;>omega
 refine .of_body func237 rfl ntmps237 results237 rfl ?_;iterate 3 refine AX ?_
 refine .al zr61 (λb6 hb6=>?_);iterate 5 refine AX ?_
 refine .p rfl (zA U61 rfl Z3 (tm rfl)) ?_;refine AX ?_;refine .p rfl (zA U61 rfl Z9 (tm rfl)) ?_;iterate 9 refine AX ?_
 refine .draw [(0,true),(1,true),(2,true),(3,true),(5,true),(6,true),(4,false),(7,true),(8,true),(9,true)] rfl aE ?_;iterate 4 refine AX ?_
 refine .p rfl rfl (zA U61 rfl Z9 (tm rfl)) ?_;refine AX ?_;refine .s rfl rfl (zD C103 (.cons (zS rfl) (evs1 rfl)) (repeatZ 48 _ (asX 0 (asW (-n) 1)).toNat (by simp only[asX,asW];split<;>split<;>omega) aA _)) ?_;rintro _ _ ⟨rfl,hH⟩;obtain rfl:=hH.symm;refine .p rfl rfl (zQ (tm rfl) (tm rfl) (by rw[zN,bA];omega)) ?_;iterate 4 refine AX ?_
 refine .seqToL [(9,.str (afC ds n)),(10,.str (aiO ds n))] [2,3,6,7,8] ?_ ?_
 ·iterate 6 refine AX ?_
  refine .cx rfl (λhc28=>?_) (λhc28=>?_)
  ·refine .draw [(0,true),(1,true),(2,true),(3,true),(4,true),(5,true),(6,true),(7,true),(8,true),(9,true)] rfl aE ?_;refine .p rfl rfl (zA U61 rfl Z9 (tm rfl)) ?_;iterate 3 refine AX ?_
   refine .p rfl rfl (zA U61 rfl Z9 (tm rfl)) ?_;iterate 6 refine AX ?_
   exact⟨rfl,(zU rfl (by(first|unfold afC|unfold aiO);first|(rw[aN hc28];done)|(rw[aN hc28];rfl)|(rw[aM hc28];rfl)|(rw[aJ];done)|(rw[aK];done)) (zU rfl (by(first|unfold afC|unfold aiO);first|(rw[aN hc28];done)|(rw[aN hc28];rfl)|(rw[aM hc28];rfl)|(rw[aJ];done)|(rw[aK];done)) sX)),rfl⟩
  refine AX ?_;exact⟨rfl,(zU rfl (by(first|unfold afC|unfold aiO);first|(rw[aN hc28];done)|(rw[aN hc28];rfl)|(rw[aM hc28];rfl)|(rw[aJ];done)|(rw[aK];done)) (zU rfl (by(first|unfold afC|unfold aiO);first|(rw[aN hc28];done)|(rw[aN hc28];rfl)|(rw[aM hc28];rfl)|(rw[aJ];done)|(rw[aK];done)) sX)),rfl⟩
 refine .sub [(9,_),(10,_),(2,_),(3,_),(6,_),(7,_),(8,_)] sX ?_;refine .seqToL [(9,.str (if upB (aiO ds n)=true then aoC (afC ds n)else afC ds n))] [3,6,7,8] ?_ ?_
 ·iterate 2 refine AX ?_
  refine .p rfl (zA U61 rfl Z4 (tm rfl)) ?_;iterate 4 refine AX ?_
  refine .cl rfl call275 (.cons (tm rfl) (evs3 rfl rfl rfl)) (awC neg _ _ hrn _) ?_;iterate 2 refine AX ?_
  refine .cx rfl (λhc42=>?_) (λhc42=>?_)
  ·iterate 2 refine AX ?_
   refine .cl rfl call276 (evs1 rfl) (asQ (afC ds n) (agE n hd) aA _) ?_;iterate 2 refine AX ?_
   exact⟨rfl,(zU rfl (by(rw[show upB (aiO ds n)=true from hc42];rfl)) sX),rfl⟩
  refine AX ?_;exact⟨rfl,(zU rfl (by(rw[show upB (aiO ds n)=false from hc42];rfl)) sX),rfl⟩
 refine .sub [(9,_),(3,_),(6,_),(7,_),(8,_)] sX ?_;iterate 2 refine AX ?_
 refine .p rfl (zA U61 rfl Z4 (tm rfl)) ?_;iterate 3 refine AX ?_
 refine .cl rfl call71 (evs3 rfl rfl rfl) (amK neg (if upB (aiO ds n)=true then aoC (afC ds n)else afC ds n) _ (by split;exact ahU (agE n hd);exact agE n hd) (by split<;>omega) (by constructor<;>omega) _) ?_;iterate 6 refine AX ?_
 refine .frz (t:=6) rfl (hb6) ?_;iterate 2 refine AX ?_
 refine⟨?_,rfl⟩;rfl
theorem ayZ(neg:Bool)(ds:List UInt8)(e:Int)(hr:yN ds e=true)(keep:Int)(hk: -100000≤keep∧keep≤100000):Fn 176 [dA neg ds e,.int .i64 keep,.int .i64 1] (dT (ahN neg ds e keep)):=by
 intro H;have hk1:(!yN ds e)=false:=by rw[hr];rfl
 have hrl:=yO hr;have hdd:=qK hr;have hpd:yF ds e=(ds.length:Int)+e:=by unfold yF;rw[aN hr]
 have hk2:decide (keep< -100000)=false:=aP aA;have hk3:decide ((100000:Int)<keep)=false:=aP aA;refine .of_body func176 rfl ntmps176 results176 rfl ?_;iterate 3 refine AX ?_
 refine .al zr61 (λb6 hb6=>?_);iterate 7 refine AX ?_
 refine .cl rfl C152 (evs1 rfl) (aeZ neg ds e hdd _) ?_;iterate 19 refine AX ?_
 refine .cond_false (tm rfl) (by exact aP aA) ?_;iterate 6 refine AX ?_
 refine .cl rfl C88 (evs1 rfl) (adJ neg ds e hdd _) ?_;iterate 7 refine AX ?_
 refine .p rfl (zA U61 rfl Z9 (tm rfl)) ?_;iterate 3 refine AX ?_
 refine zC (t:=36) rfl (λhg36=>?_) (λhg36=>?_)
 ·refine AX ?_;refine .gp rfl rfl rfl aB (zA U61 rfl Z9 (tm rfl)) ?_;iterate 6 refine AX ?_
  refine .cx rfl (λhc42=>?_) (λhc42=>?_)
  ·iterate 5 refine AX ?_
   refine .cl rfl call237 (evs3 rfl rfl rfl) (bhI neg ds e (yF ds e+keep) hdd (by simpa using hg36) hc42 aA aA aA _) ?_;iterate 6 refine AX ?_
   refine .frz (t:=6) rfl (hb6) ?_;iterate 3 refine AX ?_
   refine⟨?_,rfl⟩;unfold ahN;rw[aN ⟨by simpa using hg36,hc42⟩];rfl
  iterate 9 refine AX ?_
  refine .frz (t:=6) rfl (hb6) ?_;iterate 2 refine AX ?_
  refine⟨?_,rfl⟩;unfold ahN;rw[aM (λq=>absurd q.2 aA)];rfl
 iterate 8 refine AX ?_
 refine .cond_false (tm rfl) aD ?_;iterate 9 refine AX ?_
 refine .frz (t:=6) rfl (hb6) ?_;iterate 2 refine AX ?_
 refine⟨?_,rfl⟩;unfold ahN;rw[aM (λq=>q.1 (by simpa using hg36))];rfl
def abI(ds:List UInt8)(e n:Int):Int:=if ds=[]then e else e+n
def dR(d:Bool×List UInt8×Int):AV:=dA d.1 d.2.1 d.2.2
def acT(neg:Bool)(ds:List UInt8)(e keep:Int):Bool×List UInt8×Int:=(ahN neg ds e keep).1
theorem agJ(neg:Bool)(ds:List UInt8)(e n:Int)(he: -1000000≤e∧e≤1000000)(hn: -1000000≤n∧n≤1000000):Fn 96 [dA neg ds e,.int .i64 n] (dA neg ds (abI ds e n)):=by
 intro H;refine .of_body func96 rfl ntmps96 results96 rfl ?_;iterate 2 refine AX ?_
 refine .s rfl (aiA (tm rfl) (.inr ⟨_,rfl⟩)) ?_;rintro _ _ ⟨b2,hb2,rfl,hH⟩;obtain rfl:=hH.symm;refine .al zr61 (λb4 hb4=>?_);have hn2_4:=Heap.ne_of (oS _ _ _) hb4;iterate 5 refine AX ?_
 refine .p rfl (zG U61 rfl Z9 (tm rfl)) ?_;iterate 4 refine AX ?_
 refine .cx rfl (λhc7=>?_) (λhc7=>?_)
 ·refine AX ?_;refine .p rfl (zG U61 rfl Z3 (tm rfl)) ?_;iterate 3 refine AX ?_
  refine .p rfl (zG U61 rfl Z3 (tm rfl)) ?_;iterate 9 refine AX ?_
  refine .frz (t:=4) rfl (fS hb4 _) ?_;refine .dropb (hb2) ?_;iterate 2 refine AX ?_
  refine⟨?_,rfl⟩;unfold abI;rw[aM hc7];rfl
 iterate 8 refine AX ?_
 refine .frz (t:=4) rfl (hb4) ?_;refine .dropb (hb2) ?_;iterate 2 refine AX ?_
 refine⟨?_,rfl⟩;unfold abI;rw[aN hc7];rfl
theorem ajA(neg:Bool)(ds:List UInt8)(e:Int)(hr:yN ds e=true)(keep:Int)(hk: -100000≤keep∧keep≤100000):Fn 98 [dA neg ds e,.int .i64 keep] (dR (acT neg ds e keep)):=by
 intro H;refine .of_body func98 rfl ntmps98 results98 rfl ?_;iterate 2 refine AX ?_
 refine .s rfl (aiA (tm rfl) (.inr ⟨_,rfl⟩)) ?_;rintro _ _ ⟨b2,hb2,rfl,hH⟩;obtain rfl:=hH.symm;refine .al zr61 (λb4 hb4=>?_);have hn2_4:=Heap.ne_of (oS _ _ _) hb4;iterate 6 refine AX ?_
 refine .cl rfl call176 (.cons (tm rfl) (.cons (tm rfl) (.cons zJ .nil))) (ayZ neg ds e hr keep hk _) ?_;iterate 12 refine AX ?_
 refine .frz (t:=4) rfl (fS hb4 _) ?_;refine .dropb (hb2) ?_;iterate 2 refine AX ?_
 exact⟨rfl,rfl⟩
theorem bbL(a:Int)(n:Nat)(hn:0<n)(hn2:n≤1000000)(ha: -1000000≤a∧a≤1000000):Fn 175 [.int .i64 a,.int .i64 (n:Int)] (.int .i64 (aiV a n)):=by
 intro H;have hft:=bgX a n hn;have hq0:(a.tdiv n).natAbs≤a.natAbs:=by rw[Int.natAbs_tdiv];exact eY _ _
 refine .of_body func175 rfl ntmps175 results175 rfl ?_;iterate 9 refine AX ?_
 refine .p rfl (bqE (tm rfl) (tm rfl) aA aA) ?_;iterate 8 refine AX ?_
 refine .p rfl (akE (tm rfl) (tm rfl) aA) ?_;iterate 3 refine AX ?_
 refine .cx rfl (λhc12=>?_) (λhc12=>?_)
 ·iterate 14 refine AX ?_
  refine⟨?_,rfl⟩;rw[hft];rw[aN hc12];rfl
 iterate 10 refine AX ?_
 refine⟨?_,rfl⟩;rw[hft];rw[aJ];rfl
end
section
open Go Go.RowKit
set_option maxRecDepth 100000
theorem bkR{e e':Int}(h:yN ds e=true)(h0:ds≠[])(h1: -100000≤e'∧e'≤100000):yN ds e'=true:=by
 unfold yN at *;rw[aM h0]at *;rw[aQ h1.1,aQ h1.2];simp only[bD]at h ⊢;obtain⟨⟨⟨⟨⟨h1,_⟩,_⟩,h2⟩,h3⟩,h4⟩:=h;exact⟨⟨⟨⟨⟨h1,trivial⟩,trivial⟩,h2⟩,h3⟩,h4⟩
theorem bhJ{e n:Int}(hd:Digs ds):yN (bhK neg ds e n).1.2.1 (bhK neg ds e n).1.2.2=true:=by
 unfold bhK;refine anZ ?_;split
 ·exact ahU (agE n hd)
 exact agE n hd
theorem adP{e:Int}(h:yN ds e=true):yN (acT neg ds e k).2.1 (acT neg ds e k).2.2=true:=by
 unfold acT ahN;split
 ·exact bhJ (qK h)
 exact h
def aqJ(p:Int)(m:Nat):Int:=(m:Int)*aiV (p-1) m
def agA(neg:Bool)(ds:List UInt8)(e:Int)(m:Nat)(places:Int):Int×(Bool×List UInt8×Int):=
 if ds=[]then(0,(neg,ds,e))
 else if(m:Int)<yF (acT neg ds (abI ds e (-aqJ (yF ds e) m)) places).2.1 (acT neg ds (abI ds e (-aqJ (yF ds e) m)) places).2.2 then
  (aqJ (yF ds e) m+m,acT neg ds (abI ds e (-(aqJ (yF ds e) m+m))) places)
 else(aqJ (yF ds e) m,acT neg ds (abI ds e (-aqJ (yF ds e) m)) places)
theorem bgZ(x:Int)(m:Nat)(hm:0<m):(m:Int)*aiV x m≤x∧x<m*aiV x m+m:=by
 unfold aiV;have h2:=Int.mul_ediv_add_emod x m;have h3:=Int.emod_nonneg x (show(m:Int)≠0 by omega);have h4:=Int.emod_lt_of_pos x (show(0:Int)<m by omega);generalize(m:Int)*(x/m)=u at *;omega
def anJ(l:List ItN)(ex:Nat)(e:Int):List UInt8:=if e<0 then [69,45]else if aaV l ex=[43]then [69,43]else [69]
def blJ(l:List ItN)(ex:Nat)(e:Int):List UInt8:=List.replicate ((acN l ex l.length).length-(dec e.natAbs).length) 48++dec e.natAbs
def btQ(l:List ItN)(ex:Nat)(e:Int)(q:List Pc):List Pc:=(q.set ex (.fx (anJ l ex e))).set ((acN l ex l.length).getD 0 0) (.fx (blJ l ex e))
theorem aoG(p:Int)(m:Nat)(hm:0<m):aqJ p m≤p-1∧p-1<aqJ p m+m:=bgZ (p-1) m hm
theorem qN{e x:Int}(h:yN ds e=true)(h1: -100000≤e+x∧e+x≤100000):yN ds (abI ds e x)=true:=by
 unfold abI;by_cases h0:ds=[]
 ·rw[aN h0];exact h
 rw[aM h0];exact bkR h h0 h1
theorem bdJ{e:Int}(h:ds=[]):agA neg ds e m places=(0,(neg,ds,e)):=by unfold agA;rw[aN h]
theorem bdI{e:Int}(h:ds≠[])(h1:(m:Int)<yF (acT neg ds (abI ds e (-aqJ (yF ds e) m)) places).2.1 (acT neg ds (abI ds e (-aqJ (yF ds e) m)) places).2.2):agA neg ds e m places=(aqJ (yF ds e) m+m,acT neg ds (abI ds e (-(aqJ (yF ds e) m+m))) places):=by
 unfold agA;rw[aM h,aN h1]
theorem bdH{e:Int}(h:ds≠[])(h1:¬(m:Int)<yF (acT neg ds (abI ds e (-aqJ (yF ds e) m)) places).2.1 (acT neg ds (abI ds e (-aqJ (yF ds e) m)) places).2.2):agA neg ds e m places=(aqJ (yF ds e) m,acT neg ds (abI ds e (-aqJ (yF ds e) m)) places):=by
 unfold agA;rw[aM h,aM h1]
theorem baQ(neg:Bool)(ds:List UInt8)(e:Int)(m:Nat)(places:Int)(hm:0<m)(hm2:m≤10000)(hp: -5000≤yF ds e∧yF ds e≤5000): -20000≤(agA neg ds e m places).1∧(agA neg ds e m places).1≤20000:=by
 have h:=aoG (yF ds e) m hm;unfold agA;split
 ·simp
 split
 ·show-20000≤aqJ (yF ds e) m+m∧aqJ (yF ds e) m+m≤20000;omega
 show-20000≤aqJ (yF ds e) m∧aqJ (yF ds e) m≤20000;omega
theorem ahV{H:Heap}{b c:Nat}{y:AObj}(h:H.objs c=none)(hc:c≠b):(H.set b y).objs c=none:=(oN _ _ hc).trans h
theorem ayE{H:Heap}{b b' c:Nat}{x y:AObj}(h:(H.set b x).objs c=none)(hc:c≠b'):((H.set b' y).set b x).objs c=none:=by
 by_cases e:c=b
 ·subst e;rw[oS]at h;cases h
 rw[oN _ _ e]at h ⊢;exact ahV h hc
theorem avA{a:List Nat}{k:Nat}(h:0<a.length)(hk:a.getD 0 0=k):(a.map biR)[(0:Int).toNat]?=some (biR k):=by rw[←hk];exact asP h
theorem ajL{n:Nat}(h:n<100000):(dec n).length≤5:=(adI aC).2 h
def dC(d:Bool×List UInt8×Int):List AV:=[.bool d.1,.str d.2.1,.int .i64 d.2.2]
theorem baZ(l:List ItN)(gr:Bool)(sc:Int)(o:Loc)(b n:Nat)(pcs:List Pc)(hl:l.length≤100000)(hnl:n=l.length)(hpn:pcs.length=n)(neg:Bool)(ds:List UInt8)(e:Int)(hr:yN ds e=true)(m:Nat)(hm:0<m)(hm2:m≤10000)(places:Nat)(hpl:places≤10000)(hp: -5000≤yF ds e∧yF ds e≤5000)(ex:Nat)(hex:ex<l.length)(hdg:acN l ex l.length≠[])(H:Heap)(hb:H.objs b=some (pcR pcs)):ACall prog 97 [.iptr (shC l gr sc o b n),dA neg ds e,.int .i64 (m:Int),.int .i64 (places:Int),.int .i64 (ex:Int)] H (λy H'=>y=dR (agA neg ds e m places).2∧H'=H.set b (pcR (btQ l ex (agA neg ds e m places).1 pcs))):=by
 have hfn:=aoG (yF ds e) m hm;have hdd:=qK hr;have hrl:=yO hr;have hpe:=qQ hr;refine ACall.of_body func97 rfl ntmps97 results97 rfl ?_;iterate 2 refine AX ?_
 refine .e rfl (qR (tm rfl) (.inr ⟨_,rfl⟩)) ?_;refine .al zr61 (λb10 hb10=>?_);iterate 3 refine AX ?_
 refine AWP.draw [(0,true),(1,false),(2,true),(3,false)] rfl aE ?_;refine AX ?_;refine .s rfl rfl (acD zr61) ?_;rintro _ _ ⟨b12,hb12,rfl,hH⟩;obtain rfl:=hH.symm;have hn10_12:=Heap.ne_of (oS _ _ _) hb12;refine AX ?_;refine .s0 rfl (zM Z61 (tm rfl) (tm rfl) rfl rfl (.inr ⟨_,rfl⟩) (oS _ _ _) (lB rfl)) ?_;rintro _ _ ⟨rfl,hH⟩;obtain rfl:=hH.symm;try first|rw[sS]|rw[sU aB]
 iterate 2 refine AX ?_
 refine AWP.meet (λenv H2=>env=[(0,.iptr (shC l gr sc o b n)),(4,.int .i64 (ex:Int)),(10,.ptr (some ⟨b10,0,none⟩)),(11,.int .i64 (agA neg ds e m places).1),(12,.ptr (some ⟨b12,0,none⟩))]∧H2=(H.set b10 (.box 61 [.bool false,.str [],.int .i64 0])).set b12 (.box 61 (dC (agA neg ds e m places).2))) ?_ ?_
 ·iterate 2 refine AX ?_
  refine .p rfl (zA U61 rfl Z9 (tm rfl)) ?_;iterate 4 refine AX ?_
  refine AWP.cond (tm rfl) (λhc19=>?_) (λhc19=>?_)
  ·try simp only[aL]at hc19
   iterate 4 refine AX ?_
   refine .cl rfl C88 (evs1 rfl) (adJ neg ds e hdd _) ?_;iterate 2 refine AX ?_
   refine .cl rfl call175 (evs2 rfl rfl) (bbL _ m hm aA aA _) ?_;have hqe:(m:Int)*aiV (yF ds e-1) m=aqJ (yF ds e) m:=rfl;iterate 5 refine AX ?_
   rw[hqe];iterate 4 refine AX ?_
   refine .cl rfl C96 (evs2 rfl rfl) (agJ neg ds e _ aA aA _) ?_;refine AX ?_;refine .cl rfl call98 (evs2 rfl rfl) (ajA neg ds _ (qN hr aA) (places:Int) aA _) (.e0 (zM Z61 (tm rfl) (tm rfl) rfl rfl (.inr ⟨_,rfl⟩) (oS _ _ _) (lB rfl)) ?_);try first|rw[sS]|rw[sU aB]
   iterate 4 refine AX ?_
   refine .e rfl (zZ G61 Z61 (tm rfl) (oS _ _ _) (lB rfl)) (.cl rfl C88 (evs1 rfl) (adJ _ _ _ (qK (adP (qN hr aA))) _) ?_);iterate 4 refine AX ?_
   refine AWP.cond (tm rfl) (λhc36=>?_) (λhc36=>?_)
   ·try simp only[aL]at hc36
    iterate 12 refine AX ?_
    refine .cl rfl C96 (evs2 rfl rfl) (agJ neg ds e _ aA aA _) ?_;refine AX ?_;refine .cl rfl call98 (evs2 rfl rfl) (ajA neg ds _ (qN hr aA) (places:Int) aA _) (.e0 (zM Z61 (tm rfl) (tm rfl) rfl rfl (.inr ⟨_,rfl⟩) (oS _ _ _) (lB rfl)) ?_);try first|rw[sS]|rw[sU aB]
    iterate 2 refine AX ?_
    refine Meets.mk (M:=λenv H2=>env=[(0,.iptr (shC l gr sc o b n)),(4,.int .i64 (ex:Int)),(10,.ptr (some ⟨b10,0,none⟩)),(11,.int .i64 (agA neg ds e m places).1),(12,.ptr (some ⟨b12,0,none⟩))]∧H2=(H.set b10 (.box 61 [.bool false,.str [],.int .i64 0])).set b12 (.box 61 (dC (agA neg ds e m places).2))) ⟨by rw[bdI aB hc36]<;>rfl,by rw[bdI aB hc36]<;>rfl⟩ sX (hRa _)
   try simp only[aL]at hc36
   iterate 2 refine AX ?_
   refine Meets.mk (M:=λenv H2=>env=[(0,.iptr (shC l gr sc o b n)),(4,.int .i64 (ex:Int)),(10,.ptr (some ⟨b10,0,none⟩)),(11,.int .i64 (agA neg ds e m places).1),(12,.ptr (some ⟨b12,0,none⟩))]∧H2=(H.set b10 (.box 61 [.bool false,.str [],.int .i64 0])).set b12 (.box 61 (dC (agA neg ds e m places).2))) ⟨by rw[bdH aB aA]<;>rfl,by rw[bdH aB aA]<;>rfl⟩ sX (hRa _)
  try simp only[aL]at hc19
  iterate 2 refine AX ?_
  refine Meets.mk (M:=λenv H2=>env=[(0,.iptr (shC l gr sc o b n)),(4,.int .i64 (ex:Int)),(10,.ptr (some ⟨b10,0,none⟩)),(11,.int .i64 (agA neg ds e m places).1),(12,.ptr (some ⟨b12,0,none⟩))]∧H2=(H.set b10 (.box 61 [.bool false,.str [],.int .i64 0])).set b12 (.box 61 (dC (agA neg ds e m places).2))) ⟨by rw[bdJ aB]<;>rfl,by rw[bdJ aB]<;>rfl⟩ sX (hRa _)
 rintro _ _ ⟨rfl,rfl⟩;have hnb10:=Heap.ne_of hb hb10;have hn10b:=hnb10.symm;have hnb12:=Heap.ne_of ((oN _ _ hnb10).trans hb) hb12;have hn12b:=hnb12.symm;have hpw:=baQ neg ds e m places hm hm2 hp;generalize agA neg ds e m places=PW at hpw ⊢;have hd0:0<(acN l ex l.length).length:=bK.2 hdg;have hdl:=abA l ex l.length;have hdk:(acN l ex l.length).getD 0 0<l.length:=afO (λk hk=>(qM.1 hk).1) hd0;obtain⟨kk,hkk⟩:∃kk,(acN l ex l.length).getD 0 0=kk:=⟨_,rfl⟩;rw[hkk]at hdk;have htn:=ajL (n:=PW.1.natAbs) aA;iterate 5 refine AX ?_
 refine AWP.meet (λenv H2=>env=[(0,.iptr (shC l gr sc o b n)),(4,.int .i64 (ex:Int)),(10,.ptr (some ⟨b10,0,none⟩)),(11,.int .i64 PW.1),(12,.ptr (some ⟨b12,0,none⟩)),(13,.str (anJ l ex PW.1))]∧H2=(H.set b10 (.box 61 [.bool false,.str [],.int .i64 0])).set b12 (.box 61 (dC PW.2))) ?_ ?_
 ·iterate 8 refine AX ?_
  refine AWP.cond (tm rfl) (λhc46=>?_) (λhc46=>?_)
  ·try simp only[aL]at hc46
   iterate 2 refine AX ?_
   refine .p rfl (zQ (tm rfl) (zS rfl) (by simp only[zN,aX,aY]at *;omega)) ?_;iterate 4 refine AX ?_
   refine Meets.mk (M:=λenv H2=>env=[(0,.iptr (shC l gr sc o b n)),(4,.int .i64 (ex:Int)),(10,.ptr (some ⟨b10,0,none⟩)),(11,.int .i64 PW.1),(12,.ptr (some ⟨b12,0,none⟩)),(13,.str (anJ l ex PW.1))]∧H2=(H.set b10 (.box 61 [.bool false,.str [],.int .i64 0])).set b12 (.box 61 (dC PW.2))) ⟨rfl,rfl⟩ (zF rfl (zF rfl (zF rfl (zF rfl (zF rfl (zU rfl (by unfold anJ;first|(rw[aN (show PW.1<0 by omega)]<;>rfl)|(rw[aM (show¬PW.1<0 by omega),aN ((qG hex).symm.trans hc51)]<;>rfl)|(rw[aM (show¬PW.1<0 by omega),aM (λq=>hc51 ((qG hex).trans q))]<;>rfl)) zW)))))) (hRa _)
  try simp only[aL]at hc46
  iterate 4 refine AX ?_
  refine .p rfl (zA U89 rfl Z52 (tm rfl)) (.p rfl (zA U52 rfl Z50 (tm rfl)) ?_);iterate 3 refine AX ?_
  refine .p rfl (zA U57 rfl Z9 (tm rfl)) ?_;iterate 5 refine AX ?_
  refine AWP.cond (tm rfl) (λhc51=>?_) (λhc51=>?_)
  ·try simp only[aL]at hc51
   iterate 2 refine AX ?_
   refine .p rfl (zQ (tm rfl) (zS rfl) (by simp only[zN,aX,aY]at *;omega)) ?_;iterate 4 refine AX ?_
   refine Meets.mk (M:=λenv H2=>env=[(0,.iptr (shC l gr sc o b n)),(4,.int .i64 (ex:Int)),(10,.ptr (some ⟨b10,0,none⟩)),(11,.int .i64 PW.1),(12,.ptr (some ⟨b12,0,none⟩)),(13,.str (anJ l ex PW.1))]∧H2=(H.set b10 (.box 61 [.bool false,.str [],.int .i64 0])).set b12 (.box 61 (dC PW.2))) ⟨rfl,rfl⟩ (zF rfl (zF rfl (zF rfl (zF rfl (zF rfl (zU rfl (by unfold anJ;first|(rw[aN (show PW.1<0 by omega)]<;>rfl)|(rw[aM (show¬PW.1<0 by omega),aN ((qG hex).symm.trans hc51)]<;>rfl)|(rw[aM (show¬PW.1<0 by omega),aM (λq=>hc51 ((qG hex).trans q))]<;>rfl)) zW)))))) (hRa _)
  try simp only[aL]at hc51
  iterate 3 refine AX ?_
  refine Meets.mk (M:=λenv H2=>env=[(0,.iptr (shC l gr sc o b n)),(4,.int .i64 (ex:Int)),(10,.ptr (some ⟨b10,0,none⟩)),(11,.int .i64 PW.1),(12,.ptr (some ⟨b12,0,none⟩)),(13,.str (anJ l ex PW.1))]∧H2=(H.set b10 (.box 61 [.bool false,.str [],.int .i64 0])).set b12 (.box 61 (dC PW.2))) ⟨rfl,rfl⟩ (zF rfl (zF rfl (zF rfl (zF rfl (zF rfl (zU rfl (by unfold anJ;first|(rw[aN (show PW.1<0 by omega)]<;>rfl)|(rw[aM (show¬PW.1<0 by omega),aN ((qG hex).symm.trans hc51)]<;>rfl)|(rw[aM (show¬PW.1<0 by omega),aM (λq=>hc51 ((qG hex).trans q))]<;>rfl)) zW)))))) (hRa _)
 rintro _ _ ⟨rfl,rfl⟩;iterate 4 refine AX ?_
 refine .p rfl (zA U89 rfl Z87 (tm rfl)) ?_;refine AX ?_;refine .mv rfl rfl (.mv rfl rfl (.p rfl (qD [(0,1)] U145 V145 (zr145) rfl (pl145 _ U145) (.cons (tm rfl) (.inl rfl) .nil) rfl) (.p rfl (aaW U145 rfl (tm rfl)) (.p rfl (yH U87 Z147 (tm rfl) (tm rfl) aA aA) (.e0 (yQ Pc.av (.fx (anJ l ex PW.1)) ex Z147 (tm rfl) (tm rfl) rfl rfl ((oN _ _ aB).trans ((oN _ _ aB).trans aB)) aA aA) ?_)))));try rw[sS]
 iterate 8 refine AX ?_
 refine .p rfl (zA U89 rfl Z52 (tm rfl)) (.p rfl (zA U52 rfl Z50 (tm rfl)) ?_);iterate 2 refine AX ?_
 refine .cl rfl C95 (evs3 rfl rfl rfl) (acZ l gr sc o b n hl ex l.length aA (bB _) _) ?_;iterate 9 refine AX ?_
 refine .cl rfl C90 (evs1 rfl) (itoaZ _ PW.1.natAbs (by unfold asX;split<;>omega) aA _) ?_;iterate 4 refine AX ?_
 refine AWP.draw [(0,true),(1,true),(2,true),(3,true),(4,true),(5,true),(6,true),(7,true),(8,true),(9,true),(10,true),(11,true),(12,true),(14,true),(13,false),(15,true),(16,true),(17,true),(18,true),(19,false)] rfl aE ?_;iterate 2 refine AX ?_
 refine .p rfl rfl (zA U89 rfl Z87 (tm rfl)) ?_;iterate 2 refine AX ?_
 refine .p rfl rfl (qA U30 Z3 (tm rfl) zJ aA (avA hd0 hkk)) ?_;iterate 6 refine AX ?_
 refine .p rfl rfl (apR zJ (tm rfl)) (.p rfl rfl (zB (tm rfl)) (.s rfl rfl (zD C103 (.cons (zS rfl) (evs1 rfl)) (repeatZ 48 _ ((acN l ex l.length).length-(dec PW.1.natAbs).length) (by unfold asX;split<;>omega) aA _)) ?_));rintro _ _ ⟨rfl,hH⟩;obtain rfl:=hH.symm;refine .p rfl rfl (zQ (tm rfl) (tm rfl) (by exact abZ (by simp only[bA];omega))) (.p rfl rfl (qD [(0,1)] U145 V145 (zr145) rfl (pl145 _ U145) (.cons (tm rfl) (.inl rfl) .nil) rfl) (.p rfl rfl (aaW U145 rfl (tm rfl)) (.p rfl rfl (yH U87 Z147 (tm rfl) (tm rfl) aA aA) (.s0 rfl (yQ Pc.av (.fx (blJ l ex PW.1)) kk Z147 (tm rfl) (tm rfl) rfl rfl (oS _ _ _) aA (by rw[bR];omega)) ?_))));rintro _ _ ⟨rfl,hH⟩;obtain rfl:=hH.symm;rw[sS];iterate 3 refine AX ?_
 rw[Heap.set_comm hn12b,Heap.set_comm hn10b];have hb12:=ayE (y:=pcR ((pcs.set ex (.fx (anJ l ex PW.1))).set kk (.fx (blJ l ex PW.1)))) hb12 hn12b;have hb10:=ahV (y:=pcR ((pcs.set ex (.fx (anJ l ex PW.1))).set kk (.fx (blJ l ex PW.1)))) hb10 hn10b;refine AX ?_;refine .e rfl (zZ G61 Z61 (tm rfl) (oS _ _ _) (lB rfl)) (.e0 (zM Z61 (tm rfl) (tm rfl) rfl rfl (.inr ⟨_,rfl⟩) ((oN _ _ aB).trans (oS _ _ _)) (lB rfl)) ?_);try first|rw[sS]|rw[sU aB]
 iterate 2 refine AX ?_
 refine AWP.dropb (fS hb12 _) ?_;refine AWP.frz (t:=10) rfl (hb10) ?_;refine AX ?_;refine Ret.go (.cons (.cellI _ _ _ _ rfl G61 Z61 rfl) .nil) _ (hRa _) ?_;refine⟨rfl,?_⟩;unfold btQ;rw[hkk];rfl
end
section
open Go Go.RowKit
set_option maxRecDepth 100000
theorem amE(l:List ItN){ks js:List Int}(h:∀k,k∈ks→k∈js):yC l js≤yC l ks:=by
 unfold yC;refine List.findIdx_le_findIdx λx _ hx=>?_;simp only[aW]at *;exact h _ hx
def axX(l:List ItN)(ds:List UInt8)(e:Int):Int:=if yC l [4]<l.length then abI ds e 2 else e
def afU(l:List ItN):List Nat:=acN l 0 (yC l [3,5])
def abS(l:List ItN):List Nat:=acN l (yC l [3,5]) (yC l [5])
def byJ(l:List ItN)(neg:Bool)(ds:List UInt8)(e:Int):Int×(Bool×List UInt8×Int):=agA neg ds (axX l ds e) (max 1 (afU l).length) ((abS l).length:Int)
def akI(l:List ItN)(sc:Int)(neg:Bool)(ds:List UInt8)(e:Int):Bool×List UInt8×Int:=
 if yC l [5]<l.length then(byJ l neg ds e).2 else acT neg ds (abI ds (axX l ds e) (-3*sc)) ((abS l).length:Int)
def bdU(l:List ItN)(neg:Bool)(ds:List UInt8)(e:Int)(q:List Pc):List Pc:=if yC l [5]<l.length then btQ l (yC l [5]) (byJ l neg ds e).1 q else q
def arT(d:Bool×List UInt8×Int)(k:Nat):List UInt8×List UInt8:=adW d.2.1 (yF d.2.1 d.2.2) k
def bxZ(l:List ItN)(gr:Bool)(o:Loc)(w r:List UInt8)(q:List Pc):List Pc:=
 abW l (qV o gr) w true false (afU l) (if(afU l).length=0 then(aaT l r (abG l 0 (abS l) (adY r)) 0 (abS l) q).set (yC l [3,5]) (.fx (w++o.dc))else aaT l r (abG l 0 (abS l) (adY r)) 0 (abS l) q)
def boT(l:List ItN)(gr:Bool)(sc:Int)(o:Loc)(neg:Bool)(ds:List UInt8)(e:Int)(q:List Pc):List Pc:=
 bxZ l gr o (arT (akI l sc neg ds e) (abS l).length).1 (arT (akI l sc neg ds e) (abS l).length).2 (bdU l neg ds e q)
theorem agO(l:List ItN)(row:List UInt8)(la i:Nat)(r:List Nat)(q:List Pc):(aaT l row la i r q).length=q.length:=by
 induction r generalizing i q with
 |nil=>rfl
 |cons k r ih=>rw[aaT,ih,bR]
theorem auU(l:List ItN)(neg:Bool)(ds:List UInt8)(e:Int)(q:List Pc):(bdU l neg ds e q).length=q.length:=by
 unfold bdU btQ;split<;>simp
theorem bvZ{e:Int}:(mkN neg ds e).1.2.1=[]∨e≤(mkN neg ds e).1.2.2:=by
 unfold mkN;split
 ·exact .inl rfl
 split
 ·exact .inr (by show e≤e+_;omega)
 exact .inl rfl
theorem alQ{e:Int}(h:yN ds e=true):(acT neg ds e k).2.1=[]∨ -k≤(acT neg ds e k).2.2:=by
 unfold acT ahN;rw[qQ h];split
 ·unfold bhK;rcases bvZ (neg:=neg) (ds:=if upB (aiO ds (ds.length+e+k))=true then aoC (afC ds (ds.length+e+k))else afC ds (ds.length+e+k)) (e:=e+ds.length-(ds.length+e+k))with h|h
  ·exact .inl h
  exact .inr aA
 rename_i hn
 by_cases h0:ds=[]
 ·exact .inl h0
 exact .inr (by have:¬(ds.length:Int)+e+k<ds.length:=λq=>hn ⟨h0,q⟩
                show-k≤e;omega)
theorem bvJ{e:Int}(h:yN ds e=true)(hm:0<m)(hm2:m≤10000)(hp: -5000≤yF ds e∧yF ds e≤5000):yN (agA neg ds e m k).2.2.1 (agA neg ds e m k).2.2.2=true∧((agA neg ds e m k).2.2.1=[]∨ -k≤(agA neg ds e m k).2.2.2):=by
 have hf:=aoG (yF ds e) m hm;have hpe:=qQ h;have hl:=yO h;unfold agA;split
 ·rename_i h0;exact⟨h,.inl h0⟩
 split
 ·exact⟨adP (qN h aA),alQ (qN h aA)⟩
 exact⟨adP (qN h aA),alQ (qN h aA)⟩
theorem azP{e x:Int}(h:yN ds e=true)(h1: -100000≤e+x∧e+x≤100000):yF ds (abI ds e x)=if ds=[]then yF ds e else yF ds e+x:=by
 rw[qQ (qN h h1),qQ h];unfold abI;split
 ·rfl
 omega
theorem auW{l:List ItN}{e:Int}(h:yN ds e=true)(hp: -4000≤yF ds e∧yF ds e≤4000):yN ds (axX l ds e)=true∧ -4000≤yF ds (axX l ds e)∧yF ds (axX l ds e)≤4002:=by
 have hpe:=qQ h;have hl:=yO h;unfold axX;split
 ·refine⟨qN h aA,?_⟩;rw[azP h aA];split<;>omega
 exact⟨h,hp.1,by omega⟩
theorem auX{l:List ItN}{sc:Int}{e:Int}(h:yN ds e=true)(hp: -4000≤yF ds e∧yF ds e≤4000)(hl:l.length≤10000)(hsc:0≤sc∧sc≤20000):yN (akI l sc neg ds e).2.1 (akI l sc neg ds e).2.2=true∧((akI l sc neg ds e).2.1=[]∨ -((abS l).length:Int)≤(akI l sc neg ds e).2.2):=by
 obtain⟨h1,h2⟩:=auW (l:=l) h hp;have hpe:=qQ h1;have hll:=yO h1;have ha:(afU l).length≤l.length:=bH (abA _ _ _) (aaK _ _);unfold akI;split
 ·exact bvJ h1 aA aA aA
 exact⟨adP (qN h1 aA),alQ (qN h1 aA)⟩
theorem atS{d:Bool×List UInt8×Int}{k:Nat}(h:yN d.2.1 d.2.2=true)(hx:d.2.1=[]∨ -(k:Int)≤d.2.2):(arT d k).2.length=k∧(arT d k).1.length≤101100:=by
 have hp:=qQ h;have hl:=yO h;have hx2:d.2.1=[]∨(d.2.1.length:Int)≤yF d.2.1 d.2.2+k:=by rcases hx with h|h;exact .inl h;exact .inr aA
 refine⟨bfE hx2,?_⟩;unfold arT;rw[←bkK hx2];unfold bpX;split
 ·simp
 simp only[bQ,List.length_range];omega
theorem bvK(l:List ItN)(gr:Bool)(sc:Int)(o:Loc)(b n:Nat)(pcs:List Pc)(hl:l.length≤100000)(hnl:n=l.length)(hpn:pcs.length=n)(neg:Bool)(ds:List UInt8)(e:Int)(hr:yN ds e=true)(m:Nat){z:Int}(hz:z=(m:Int))(hm:0<m)(hm2:m≤10000)(places:Nat)(hpl:places≤10000)(hp: -5000≤yF ds e∧yF ds e≤5000)(ex:Nat)(hex:ex<l.length)(hdg:acN l ex l.length≠[])(H:Heap)(hb:H.objs b=some (pcR pcs)):ACall prog 97 [.iptr (shC l gr sc o b n),dA neg ds e,.int .i64 z,.int .i64 (places:Int),.int .i64 (ex:Int)] H (λy H'=>y=dR (agA neg ds e m places).2∧H'=H.set b (pcR (btQ l ex (agA neg ds e m places).1 pcs))):=by
 subst hz;exact baZ l gr sc o b n pcs hl hnl hpn neg ds e hr m hm hm2 places hpl hp ex hex hdg H hb
theorem axU(l:List ItN)(gr:Bool)(sc:Int)(o:Loc)(b n:Nat)(pcs:List Pc)(ho:o.ok)(hs2:o.second=2∨o.second=3)(hl:l.length≤10000)(hsc:0≤sc∧sc≤20000)(hnl:n=l.length)(hpn:pcs.length=n)(neg:Bool)(ds:List UInt8)(e:Int)(hr:yN ds e=true)(hp: -4000≤yF ds e∧yF ds e≤4000)(hpt:(afU l).length=0→yC l [3,5]<l.length)(hdg:yC l [5]<l.length→acN l (yC l [5]) l.length≠[])(H:Heap)(hb:H.objs b=some (pcR pcs)):ACall prog 39 [.iptr (shC l gr sc o b n),dA neg ds e] H (λy H'=>y= .bool (decide ((akI l sc neg ds e).2.1≠[]))∧H'=H.set b (pcR (boT l gr sc o neg ds e pcs))):=by
 have hc1:=aaK l [3,5];have hc2:=aaK l [5];have hc3:=amE l (ks:=[5]) (js:=[3,5]) (λk hk=>eD _ hk);have hrl:=yO hr;have hpe:=qQ hr;obtain⟨hr1,hp1⟩:=auW (l:=l) hr hp;have hpe1:=qQ hr1;have hrl1:=yO hr1;have hla:(afU l).length≤l.length:=bH (abA _ _ _) hc1;have hlb:(abS l).length≤l.length:=bH (abA _ _ _) hc2;have hnok:=auX (l:=l) (sc:=sc) (neg:=neg) hr hp hl hsc;have hnl2:=yO hnok.1;have hnp:=qQ hnok.1;have hsl:=atS hnok.1 hnok.2;refine ACall.of_body func39 rfl ntmps39 results39 rfl ?_;iterate 2 refine AX ?_
 refine .s rfl (aiA (tm rfl) (.inr ⟨_,rfl⟩)) ?_;rintro _ _ ⟨b3,hb3,rfl,hH⟩;obtain rfl:=hH.symm;iterate 4 refine AX ?_
 have hnb3:=Heap.ne_of hb hb3;have hn3b:=hnb3.symm;iterate 2 refine AX ?_
 refine .e rfl (adK U30 Z3 V3 rfl zJ (.inl rfl) ⟨rfl,rfl⟩ zJ (.inl rfl) ⟨rfl,rfl⟩) (.e rfl (zD C94 (evs2 rfl rfl) (afJ l gr sc o b n aA [3,5] _ aC _)) ?_);refine AX ?_;refine .e rfl (yP U30 Z3 V3 rfl zJ (.inl rfl) ⟨rfl,rfl⟩) (.e rfl (zD C94 (evs2 rfl rfl) (afJ l gr sc o b n aA [5] _ aC _)) ?_);iterate 8 refine AX ?_
 refine .e rfl (zD C95 (.cons (tm rfl) (.cons zJ (evs1 rfl))) (acZ l gr sc o b n aA 0 (yC l [3,5]) (Nat.zero_le _) hc1 _)) ?_;iterate 3 refine AX ?_
 refine .e rfl (zD C95 (evs3 rfl rfl rfl) (acZ l gr sc o b n aA (yC l [3,5]) (yC l [5]) hc3 hc2 _)) ?_;iterate 4 refine AX ?_
 refine AWP.meet (λenv H2=>env=[(0,.iptr (shC l gr sc o b n)),(3,.ptr (some ⟨b3,0,none⟩)),(5,.int .i64 (yC l [3,5]:Int)),(6,.int .i64 (yC l [5]:Int)),(7,abB (afU l) .shared),(8,abB (abS l) .shared)]∧H2=(H.set b3 (.box 61 [.bool neg,.str ds,.int .i64 (axX l ds e)]))) ?_ ?_
 ·refine AX ?_;refine AWP.draw [(0,true),(1,true),(3,true),(4,true),(5,true),(6,true),(7,true),(8,true),(2,false),(9,true)] rfl aE ?_;refine AX ?_;refine APlan.f rfl rfl (λ_=>yP U30 Z3 V3 rfl zJ (.inl rfl) ⟨rfl,rfl⟩) ?_;iterate 2 refine AX ?_
  refine .p rfl rfl (zA U89 rfl Z52 (tm rfl)) (.p rfl rfl (zA U52 rfl Z50 (tm rfl)) ?_);iterate 2 refine AX ?_
  refine .s rfl rfl (zD C94 (evs2 rfl rfl) (afJ l gr sc o b n aA [4] _ aC _)) ?_;rintro _ _ ⟨rfl,hH⟩;obtain rfl:=hH.symm;iterate 3 refine AX ?_
  refine AWP.cond (tm rfl) (λhc33=>?_) (λhc33=>?_)
  ·try simp only[aL]at hc33
   refine AX ?_;refine .e rfl (zZ G61 Z61 (tm rfl) (oS _ _ _) (lB rfl)) (.e rfl (zD C96 (.cons (tm rfl) (.cons zJ .nil)) (agJ neg ds e 2 aA aA _)) (.e0 (zM Z61 (tm rfl) (tm rfl) rfl rfl (.inr ⟨_,rfl⟩) (oS _ _ _) (lB rfl)) ?_));try first|rw[sS]|rw[sU aB]
   iterate 2 refine AX ?_
   refine Meets.mk (M:=λenv H2=>env=[(0,.iptr (shC l gr sc o b n)),(3,.ptr (some ⟨b3,0,none⟩)),(5,.int .i64 (yC l [3,5]:Int)),(6,.int .i64 (yC l [5]:Int)),(7,abB (afU l) .shared),(8,abB (abS l) .shared)]∧H2=(H.set b3 (.box 61 [.bool neg,.str ds,.int .i64 (axX l ds e)]))) ⟨rfl,by unfold axX;rw[aK];rfl⟩ sX (hRa _)
  try simp only[aL]at hc33
  iterate 2 refine AX ?_
  refine Meets.mk (M:=λenv H2=>env=[(0,.iptr (shC l gr sc o b n)),(3,.ptr (some ⟨b3,0,none⟩)),(5,.int .i64 (yC l [3,5]:Int)),(6,.int .i64 (yC l [5]:Int)),(7,abB (afU l) .shared),(8,abB (abS l) .shared)]∧H2=(H.set b3 (.box 61 [.bool neg,.str ds,.int .i64 (axX l ds e)]))) ⟨rfl,by unfold axX;rw[aJ];rfl⟩ sX (hRa _)
 rintro _ _ ⟨rfl,rfl⟩;refine AWP.meet (λenv H2=>env=[(0,.iptr (shC l gr sc o b n)),(3,.ptr (some ⟨b3,0,none⟩)),(5,.int .i64 (yC l [3,5]:Int)),(6,.int .i64 (yC l [5]:Int)),(7,abB (afU l) .shared),(8,abB (abS l) .shared)]∧H2=(H.set b3 (.box 61 (dC (akI l sc neg ds e)))).set b (pcR (bdU l neg ds e pcs))) ?_ ?_
 ·iterate 5 refine AX ?_
  refine .p rfl (zA U89 rfl Z52 (tm rfl)) (.p rfl (zA U52 rfl Z50 (tm rfl)) ?_);iterate 5 refine AX ?_
  refine AWP.cond (tm rfl) (λhc43=>?_) (λhc43=>?_)
  ·try simp only[aL]at hc43
   iterate 2 refine AX ?_
   refine .e rfl (zZ G61 Z61 (tm rfl) (oS _ _ _) (lB rfl)) ?_;iterate 6 refine AX ?_
   refine .e rfl (zD call97 (.cons (tm rfl) (.cons (tm rfl) (evs3 rfl rfl rfl))) (bvK l gr sc o b n pcs aA hnl hpn neg ds _ hr1 (max 1 (afU l).length) (by unfold asX;split<;>omega) aA aA (abS l).length aA aA (yC l [5]) aA (hdg aA) _ ((oN _ _ hnb3).trans hb))) ?_;refine .e0 (zM Z61 (tm rfl) (tm rfl) rfl rfl (.inr ⟨_,rfl⟩) ((oN _ _ aB).trans (oS _ _ _)) (lB rfl)) ?_;try first|rw[sS]|rw[sU aB]
   iterate 2 refine AX ?_
   refine Meets.mk (M:=λenv H2=>env=[(0,.iptr (shC l gr sc o b n)),(3,.ptr (some ⟨b3,0,none⟩)),(5,.int .i64 (yC l [3,5]:Int)),(6,.int .i64 (yC l [5]:Int)),(7,abB (afU l) .shared),(8,abB (abS l) .shared)]∧H2=(H.set b3 (.box 61 (dC (akI l sc neg ds e)))).set b (pcR (bdU l neg ds e pcs))) ⟨rfl,by unfold akI bdU;rw[aK,aK];rfl⟩ sX (hRa _)
  try simp only[aL]at hc43
  refine AWP.draw [(1,true),(2,true),(3,true),(4,true),(5,true),(6,true),(8,true),(9,true),(0,false),(7,false),(10,false),(11,false)] rfl aE ?_;iterate 2 refine AX ?_
  refine .p rfl rfl (zA U89 rfl Z52 (tm rfl)) (.p rfl rfl (zA U52 rfl Z3 (tm rfl)) ?_);iterate 4 refine AX ?_
  refine .s rfl rfl (zZ G61 Z61 (tm rfl) (oS _ _ _) (lB rfl)) ?_;rintro _ _ ⟨rfl,hH⟩;obtain rfl:=hH.symm;refine .s rfl rfl (zD C96 (evs2 rfl rfl) (agJ neg ds _ _ aA aA _)) ?_;rintro _ _ ⟨rfl,hH⟩;obtain rfl:=hH.symm;refine .s rfl rfl (zD call98 (evs2 rfl rfl) (ajA neg ds _ (qN hr1 aA) _ aA _)) ?_;rintro _ _ ⟨rfl,hH⟩;obtain rfl:=hH.symm;refine .s0 rfl (zM Z61 (tm rfl) (tm rfl) rfl rfl (.inr ⟨_,rfl⟩) (oS _ _ _) (lB rfl)) ?_;rintro _ _ ⟨rfl,hH⟩;obtain rfl:=hH.symm;try first|rw[sS]|rw[sU aB]
  iterate 2 refine AX ?_
  refine Meets.mk (M:=λenv H2=>env=[(0,.iptr (shC l gr sc o b n)),(3,.ptr (some ⟨b3,0,none⟩)),(5,.int .i64 (yC l [3,5]:Int)),(6,.int .i64 (yC l [5]:Int)),(7,abB (afU l) .shared),(8,abB (abS l) .shared)]∧H2=(H.set b3 (.box 61 (dC (akI l sc neg ds e)))).set b (pcR (bdU l neg ds e pcs))) ⟨rfl,by unfold akI bdU;rw[aJ,aJ];exact(Heap.set_self ((oN _ _ hnb3).trans hb)).symm⟩ sX (hRa _)
 rintro _ _ ⟨rfl,rfl⟩;have hql:=(auU l neg ds e pcs).trans hpn;unfold boT bxZ arT;unfold arT at hsl;generalize akI l sc neg ds e=D at *;generalize bdU l neg ds e pcs=Q1 at *;iterate 2 refine AX ?_
 refine .e rfl (zZ G61 Z61 (tm rfl) ((oN _ _ aB).trans (oS _ _ _)) (lB rfl)) ?_;iterate 2 refine AX ?_
 refine .e rfl (zD call99 (evs2 rfl rfl) (amP _ _ _ (qK hnok.1) aA aA (abS l).length aA _)) ?_;generalize adW D.2.1 (yF D.2.1 D.2.2) (abS l).length=S at hsl ⊢;iterate 12 refine AX ?_
 refine .s rfl (zD call100 (evs3 rfl rfl rfl) (auA l gr sc o b n S.2 (abS l) Q1 aA hnl hql (λk hk=>by have:=(qM.1 hk).1;omega) aA aA _ (oS _ _ _))) ?_;rintro _ _ hH;obtain rfl:=hH;rw[sS];iterate 2 refine AX ?_
 refine AWP.meet (λenv H2=>env=[(0,.iptr (shC l gr sc o b n)),(3,.ptr (some ⟨b3,0,none⟩)),(5,.int .i64 (yC l [3,5]:Int)),(6,.int .i64 (yC l [5]:Int)),(7,abB (afU l) .shared),(8,abB (abS l) .shared),(9,.str S.1)]∧H2=(H.set b3 (.box 61 (dC D))).set b (pcR (if(afU l).length=0 then(aaT l S.2 (abG l 0 (abS l) (adY S.2)) 0 (abS l) Q1).set (yC l [3,5]) (.fx (S.1++o.dc))else(aaT l S.2 (abG l 0 (abS l) (adY S.2)) 0 (abS l) Q1)))) ?_ ?_
 ·iterate 7 refine AX ?_
  refine AWP.cond (tm rfl) (λhc77=>?_) (λhc77=>?_)
  ·try simp only[aL]at hc77
   refine AWP.draw [(0,true),(1,true),(2,true),(3,true),(4,true),(5,true),(6,true),(7,true),(8,true),(9,true),(10,true),(11,true),(12,true),(13,true),(14,true),(15,false)] rfl aE ?_;iterate 2 refine AX ?_
   refine .p rfl rfl (zA U89 rfl Z87 (tm rfl)) ?_;iterate 5 refine AX ?_
   refine .p rfl rfl (zA U89 rfl Z32 (tm rfl)) (.p rfl rfl (zA U32 rfl Z9 (tm rfl)) (.p rfl rfl (zX G9 (tm rfl)) ?_));refine .p rfl rfl (zQ (tm rfl) (tm rfl) (by rw[zN];have h1:=ho.1;omega)) ?_;refine .p rfl rfl (qD [(0,1)] U145 V145 (zr145) rfl (pl145 _ U145) (.cons (tm rfl) (.inl rfl) .nil) rfl) (.p rfl rfl (aaW U145 rfl (tm rfl)) (.p rfl rfl (yH U87 Z147 (tm rfl) (tm rfl) aA aA) (.s0 rfl (yQ Pc.av (.fx (S.1++o.dc)) (yC l [3,5]) Z147 (tm rfl) (tm rfl) rfl rfl (oS _ _ _) aA (by rw[agO];omega)) ?_)));rintro _ _ ⟨rfl,hH⟩;obtain rfl:=hH.symm;rw[sS];iterate 2 refine AX ?_
   refine Meets.mk (M:=λenv H2=>env=[(0,.iptr (shC l gr sc o b n)),(3,.ptr (some ⟨b3,0,none⟩)),(5,.int .i64 (yC l [3,5]:Int)),(6,.int .i64 (yC l [5]:Int)),(7,abB (afU l) .shared),(8,abB (abS l) .shared),(9,.str S.1)]∧H2=(H.set b3 (.box 61 (dC D))).set b (pcR (if(afU l).length=0 then(aaT l S.2 (abG l 0 (abS l) (adY S.2)) 0 (abS l) Q1).set (yC l [3,5]) (.fx (S.1++o.dc))else(aaT l S.2 (abG l 0 (abS l) (adY S.2)) 0 (abS l) Q1)))) ⟨rfl,by rw[aK];rfl⟩ sX (hRa _)
  try simp only[aL]at hc77
  iterate 2 refine AX ?_
  refine Meets.mk (M:=λenv H2=>env=[(0,.iptr (shC l gr sc o b n)),(3,.ptr (some ⟨b3,0,none⟩)),(5,.int .i64 (yC l [3,5]:Int)),(6,.int .i64 (yC l [5]:Int)),(7,abB (afU l) .shared),(8,abB (abS l) .shared),(9,.str S.1)]∧H2=(H.set b3 (.box 61 (dC D))).set b (pcR (if(afU l).length=0 then(aaT l S.2 (abG l 0 (abS l) (adY S.2)) 0 (abS l) Q1).set (yC l [3,5]) (.fx (S.1++o.dc))else(aaT l S.2 (abG l 0 (abS l) (adY S.2)) 0 (abS l) Q1)))) ⟨rfl,by rw[aJ]⟩ sX (hRa _)
 rintro _ _ ⟨rfl,rfl⟩;have hq2:(if(afU l).length=0 then(aaT l S.2 (abG l 0 (abS l) (adY S.2)) 0 (abS l) Q1).set (yC l [3,5]) (.fx (S.1++o.dc))else(aaT l S.2 (abG l 0 (abS l) (adY S.2)) 0 (abS l) Q1)).length=n:=by split<;>simp only[bR,agO]<;>exact hql
 iterate 5 refine AX ?_
 refine .s rfl (zD call101 (evs3 rfl rfl rfl) (ahG l gr sc o b n S.1 (afU l) _ ho hs2 aA hnl hq2 (λk hk=>by have:=(qM.1 hk).1;omega) aA aA _ (oS _ _ _))) ?_;rintro _ _ hH;obtain rfl:=hH;rw[sS];iterate 3 refine AX ?_
 rw[Heap.set_comm hn3b];have hb3:=ahV (y:=pcR []) hb3 hn3b;refine AX ?_;refine .p rfl (zG U61 rfl Z9 (tm rfl)) (.e rfl (zP G9 (tm rfl) (oS _ _ _) rfl) ?_);iterate 4 refine AX ?_
 refine AWP.dropb (fS hb3 _) ?_;refine AX ?_;refine Ret.go (.cons (.tmp _ _ rfl) .nil) _ (hRa _) ?_;refine⟨congrArg AV.bool ?_,rfl⟩;by_cases q:D.2.1=[]<;>simp[q]
end
end Go.Proofs.YteedncdcbgplfaaGreatDoor
