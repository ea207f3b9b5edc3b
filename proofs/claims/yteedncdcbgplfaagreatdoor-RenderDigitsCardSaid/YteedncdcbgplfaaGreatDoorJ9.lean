import Derived.Test.YteedncdcbgplfaaGreatDoorJ8
set_option maxHeartbeats 1000000
namespace Go.Proofs.YteedncdcbgplfaaGreatDoor
open Go.Proofs.Tryz
open Go Go.RowKit
variable{ds:List UInt8}{neg:Bool}{k places:Int}{m:Nat}
section
set_option maxRecDepth 100000
def aeM(ds:List UInt8)(n:Int):List UInt8:=if 0<n then ds.take n.toNat else []
def akN(ds:List UInt8)(n:Int):List UInt8:=if 0<n then ds.drop n.toNat else List.replicate (anA 0 (asK (-n) 1)).toNat 48++ds
def bcY(neg:Bool)(ds:List UInt8)(e n:Int):(Bool×List UInt8×Int)×Int:=mkN neg (if upB (akN ds n)=true then apT (aeM ds n)else aeM ds n) (e+ds.length-n)
theorem bzF{n:Int}(h:n<ds.length)(h0:ds≠[]):akN ds n≠[]:=by
 unfold akN;split
 ·intro q;have:=congrArg List.length q;simp at this;omega
 intro q;exact h0 (List.append_eq_nil_iff.1 q).2
theorem buV(ds:List UInt8)(n:Int):(aeM ds n).length≤ds.length:=by
 unfold aeM;split
 ·rw[aV];omega
 simp
theorem adV(n:Int)(hd:Digs ds):Digs (aeM ds n):=by
 unfold aeM;split
 ·exact hd.take _
 exact λx hx=>by cases hx
def adF(neg:Bool)(ds:List UInt8)(e:Int)(keep:Int):(Bool×List UInt8×Int)×Int:=if ds≠[]∧zU ds e+keep<ds.length then bcY neg ds e (zU ds e+keep)else((neg,ds,e),0)
theorem boZ(neg:Bool)(ds:List UInt8)(e:Int)(n:Int)(hd:Digs ds)(h0:ds≠[])(hn2:n<ds.length)(hn: -1000000≤n)(hl:ds.length≤2000)(he: -200000≤e∧e≤200000):Fn 237 [dA neg ds e,.int .i64 n,.int .i64 1] (dT (bcY neg ds e n)):=by
 intro H;have hrn:=bzF hn2 h0;have hkl:=buV ds n;have hil:=akB (aeM ds n);have hml:=zQ;have hrl:(anA 0 (asK (-n) 1)).toNat≤1:=by unfold anA asK;split<;>split<;>omega
 refine .of_body func237 rfl ntmps237 results237 rfl ?_;iterate 3 refine AX ?_
 refine .al zr61 (λb6 hb6=>?_);iterate 5 refine AX ?_
 refine .p rfl (zA U61 rfl Z3 (tm rfl)) ?_;refine AX ?_;refine .p rfl (zA U61 rfl Z9 (tm rfl)) ?_;iterate 9 refine AX ?_
 refine .draw [(0,true),(1,true),(2,true),(3,true),(5,true),(6,true),(4,false),(7,true),(8,true),(9,true)] rfl aE ?_;iterate 4 refine AX ?_
 refine .p rfl rfl (zA U61 rfl Z9 (tm rfl)) ?_;refine AX ?_;refine .s rfl rfl (zB C103 (.cons (zO rfl) (evs1 rfl)) (repeatZ 48 _ (anA 0 (asK (-n) 1)).toNat (by simp only[anA,asK];split<;>split<;>omega) aA _)) ?_;rintro _ _ ⟨rfl,hH⟩;obtain rfl:=hH.symm;refine .p rfl rfl (zY (tm rfl) (tm rfl) (by rw[zQ,bE];omega)) ?_;iterate 4 refine AX ?_
 refine .seqToL [(9,.str (aeM ds n)),(10,.str (akN ds n))] [2,3,6,7,8] ?_ ?_
 ·iterate 6 refine AX ?_
  refine .cx rfl (λhc28=>?_) (λhc28=>?_)
  ·refine .draw [(0,true),(1,true),(2,true),(3,true),(4,true),(5,true),(6,true),(7,true),(8,true),(9,true)] rfl aE ?_;refine .p rfl rfl (zA U61 rfl Z9 (tm rfl)) ?_;iterate 3 refine AX ?_
   refine .p rfl rfl (zA U61 rfl Z9 (tm rfl)) ?_;iterate 6 refine AX ?_
   exact⟨rfl,(zR rfl (by(first|unfold aeM|unfold akN);first|(rw[aN hc28];done)|(rw[aN hc28];rfl)|(rw[aM hc28];rfl)|(rw[aJ];done)|(rw[aK];done)) (zR rfl (by(first|unfold aeM|unfold akN);first|(rw[aN hc28];done)|(rw[aN hc28];rfl)|(rw[aM hc28];rfl)|(rw[aJ];done)|(rw[aK];done)) sX)),rfl⟩
  refine AX ?_;exact⟨rfl,(zR rfl (by(first|unfold aeM|unfold akN);first|(rw[aN hc28];done)|(rw[aN hc28];rfl)|(rw[aM hc28];rfl)|(rw[aJ];done)|(rw[aK];done)) (zR rfl (by(first|unfold aeM|unfold akN);first|(rw[aN hc28];done)|(rw[aN hc28];rfl)|(rw[aM hc28];rfl)|(rw[aJ];done)|(rw[aK];done)) sX)),rfl⟩
 refine .sub [(9,_),(10,_),(2,_),(3,_),(6,_),(7,_),(8,_)] sX ?_;refine .seqToL [(9,.str (if upB (akN ds n)=true then apT (aeM ds n)else aeM ds n))] [3,6,7,8] ?_ ?_
 ·iterate 2 refine AX ?_
  refine .p rfl (zA U61 rfl Z4 (tm rfl)) ?_;iterate 4 refine AX ?_
  refine .cl rfl call275 (.cons (tm rfl) (evs3 rfl rfl rfl)) (azW neg _ _ hrn _) ?_;iterate 2 refine AX ?_
  refine .cx rfl (λhc42=>?_) (λhc42=>?_)
  ·iterate 2 refine AX ?_
   refine .cl rfl call276 (evs1 rfl) (avV (aeM ds n) (adV n hd) aA _) ?_;iterate 2 refine AX ?_
   exact⟨rfl,(zR rfl (by(rw[show upB (akN ds n)=true from hc42];rfl)) sX),rfl⟩
  refine AX ?_;exact⟨rfl,(zR rfl (by(rw[show upB (akN ds n)=false from hc42];rfl)) sX),rfl⟩
 refine .sub [(9,_),(3,_),(6,_),(7,_),(8,_)] sX ?_;iterate 2 refine AX ?_
 refine .p rfl (zA U61 rfl Z4 (tm rfl)) ?_;iterate 3 refine AX ?_
 refine .cl rfl C71 (evs3 rfl rfl rfl) (akK neg (if upB (akN ds n)=true then apT (aeM ds n)else aeM ds n) _ (by split;exact ahP (adV n hd);exact adV n hd) (by split<;>omega) (by constructor<;>omega) _) ?_;iterate 6 refine AX ?_
 refine .frz (t:=6) rfl (hb6) ?_;iterate 2 refine AX ?_
 refine⟨?_,rfl⟩;rfl
theorem bdF(neg:Bool)(ds:List UInt8)(e:Int)(hr:yE ds e=true)(keep:Int)(hk: -100000≤keep∧keep≤100000):Fn 176 [dA neg ds e,.int .i64 keep,.int .i64 1] (dT (adF neg ds e keep)):=by
 intro H;have hk1:(!yE ds e)=false:=by rw[hr];rfl
 have hrl:=yX hr;have hdd:=qC hr;have hpd:zU ds e=(ds.length:Int)+e:=by unfold zU;rw[aN hr]
 have hk2:decide (keep< -100000)=false:=aS aA;have hk3:decide ((100000:Int)<keep)=false:=aS aA;refine .of_body func176 rfl ntmps176 results176 rfl ?_;iterate 3 refine AX ?_
 refine .al zr61 (λb6 hb6=>?_);iterate 7 refine AX ?_
 refine .cl rfl C152 (evs1 rfl) (adW neg ds e hdd _) ?_;iterate 19 refine AX ?_
 refine .cond_false (tm rfl) (by exact aS aA) ?_;iterate 6 refine AX ?_
 refine .cl rfl C88 (evs1 rfl) (acT neg ds e hdd _) ?_;iterate 7 refine AX ?_
 refine .p rfl (zA U61 rfl Z9 (tm rfl)) ?_;iterate 3 refine AX ?_
 refine zD (t:=36) rfl (λhg36=>?_) (λhg36=>?_)
 ·refine AX ?_;refine .gp rfl rfl rfl aB (zA U61 rfl Z9 (tm rfl)) ?_;iterate 6 refine AX ?_
  refine .cx rfl (λhc42=>?_) (λhc42=>?_)
  ·iterate 5 refine AX ?_
   refine .cl rfl call237 (evs3 rfl rfl rfl) (boZ neg ds e (zU ds e+keep) hdd (by simpa using hg36) hc42 aA aA aA _) ?_;iterate 6 refine AX ?_
   refine .frz (t:=6) rfl (hb6) ?_;iterate 3 refine AX ?_
   refine⟨?_,rfl⟩;unfold adF;rw[aN ⟨by simpa using hg36,hc42⟩];rfl
  iterate 9 refine AX ?_
  refine .frz (t:=6) rfl (hb6) ?_;iterate 2 refine AX ?_
  refine⟨?_,rfl⟩;unfold adF;rw[aM (λq=>absurd q.2 aA)];rfl
 iterate 8 refine AX ?_
 refine .cond_false (tm rfl) aD ?_;iterate 9 refine AX ?_
 refine .frz (t:=6) rfl (hb6) ?_;iterate 2 refine AX ?_
 refine⟨?_,rfl⟩;unfold adF;rw[aM (λq=>q.1 (by simpa using hg36))];rfl
def acI(ds:List UInt8)(e n:Int):Int:=if ds=[]then e else e+n
def dR(d:Bool×List UInt8×Int):AV:=dA d.1 d.2.1 d.2.2
def yL(neg:Bool)(ds:List UInt8)(e keep:Int):Bool×List UInt8×Int:=(adF neg ds e keep).1
theorem ahZ(neg:Bool)(ds:List UInt8)(e n:Int)(he: -1000000≤e∧e≤1000000)(hn: -1000000≤n∧n≤1000000):Fn 96 [dA neg ds e,.int .i64 n] (dA neg ds (acI ds e n)):=by
 intro H;refine .of_body func96 rfl ntmps96 results96 rfl ?_;iterate 2 refine AX ?_
 refine .s rfl (ajM (tm rfl) (.inr ⟨_,rfl⟩)) ?_;rintro _ _ ⟨b2,hb2,rfl,hH⟩;obtain rfl:=hH.symm;refine .al zr61 (λb4 hb4=>?_);have hn2_4:=Heap.ne_of (oS _ _ _) hb4;iterate 5 refine AX ?_
 refine .p rfl (zC U61 rfl Z9 (tm rfl)) ?_;iterate 4 refine AX ?_
 refine .cx rfl (λhc7=>?_) (λhc7=>?_)
 ·refine AX ?_;refine .p rfl (zC U61 rfl Z3 (tm rfl)) ?_;iterate 3 refine AX ?_
  refine .p rfl (zC U61 rfl Z3 (tm rfl)) ?_;iterate 9 refine AX ?_
  refine .frz (t:=4) rfl (fS hb4 _) ?_;refine .dropb (hb2) ?_;iterate 2 refine AX ?_
  refine⟨?_,rfl⟩;unfold acI;rw[aM hc7];rfl
 iterate 8 refine AX ?_
 refine .frz (t:=4) rfl (hb4) ?_;refine .dropb (hb2) ?_;iterate 2 refine AX ?_
 refine⟨?_,rfl⟩;unfold acI;rw[aN hc7];rfl
theorem alG(neg:Bool)(ds:List UInt8)(e:Int)(hr:yE ds e=true)(keep:Int)(hk: -100000≤keep∧keep≤100000):Fn 98 [dA neg ds e,.int .i64 keep] (dR (yL neg ds e keep)):=by
 intro H;refine .of_body func98 rfl ntmps98 results98 rfl ?_;iterate 2 refine AX ?_
 refine .s rfl (ajM (tm rfl) (.inr ⟨_,rfl⟩)) ?_;rintro _ _ ⟨b2,hb2,rfl,hH⟩;obtain rfl:=hH.symm;refine .al zr61 (λb4 hb4=>?_);have hn2_4:=Heap.ne_of (oS _ _ _) hb4;iterate 6 refine AX ?_
 refine .cl rfl call176 (.cons (tm rfl) (.cons (tm rfl) (.cons zJ .nil))) (bdF neg ds e hr keep hk _) ?_;iterate 12 refine AX ?_
 refine .frz (t:=4) rfl (fS hb4 _) ?_;refine .dropb (hb2) ?_;iterate 2 refine AX ?_
 exact⟨rfl,rfl⟩
theorem bgQ(a:Int)(n:Nat)(hn:0<n)(hn2:n≤1000000)(ha: -1000000≤a∧a≤1000000):Fn 175 [.int .i64 a,.int .i64 (n:Int)] (.int .i64 (apG a n)):=by
 intro H;have hft:=boJ a n hn;have hq0:(a.tdiv n).natAbs≤a.natAbs:=by rw[Int.natAbs_tdiv];exact dP _ _
 refine .of_body func175 rfl ntmps175 results175 rfl ?_;iterate 9 refine AX ?_
 refine .p rfl (bzM (tm rfl) (tm rfl) aA aA) ?_;iterate 8 refine AX ?_
 refine .p rfl (amJ (tm rfl) (tm rfl) aA) ?_;iterate 3 refine AX ?_
 refine .cx rfl (λhc12=>?_) (λhc12=>?_)
 ·iterate 14 refine AX ?_
  refine⟨?_,rfl⟩;rw[hft];rw[aN hc12];rfl
 iterate 10 refine AX ?_
 refine⟨?_,rfl⟩;rw[hft];rw[aJ];rfl
end
section
open Go Go.RowKit
set_option maxRecDepth 100000
theorem bsG{e e':Int}(h:yE ds e=true)(h0:ds≠[])(h1: -100000≤e'∧e'≤100000):yE ds e'=true:=by
 unfold yE at *;rw[aM h0]at *;rw[aU h1.1,aU h1.2];simp only[bN]at h ⊢;obtain⟨⟨⟨⟨⟨h1,_⟩,_⟩,h2⟩,h3⟩,h4⟩:=h;exact⟨⟨⟨⟨⟨h1,trivial⟩,trivial⟩,h2⟩,h3⟩,h4⟩
theorem bpA{e n:Int}(hd:Digs ds):yE (bcY neg ds e n).1.2.1 (bcY neg ds e n).1.2.2=true:=by
 unfold bcY;refine amS ?_;split
 ·exact ahP (adV n hd)
 exact adV n hd
theorem aaD{e:Int}(h:yE ds e=true):yE (yL neg ds e k).2.1 (yL neg ds e k).2.2=true:=by
 unfold yL adF;split
 ·exact bpA (qC h)
 exact h
def auE(p:Int)(m:Nat):Int:=(m:Int)*apG (p-1) m
def anK(neg:Bool)(ds:List UInt8)(e:Int)(m:Nat)(places:Int):Int×(Bool×List UInt8×Int):=
 if ds=[]then(0,(neg,ds,e))
 else if(m:Int)<zU (yL neg ds (acI ds e (-auE (zU ds e) m)) places).2.1 (yL neg ds (acI ds e (-auE (zU ds e) m)) places).2.2 then
  (auE (zU ds e) m+m,yL neg ds (acI ds e (-(auE (zU ds e) m+m))) places)
 else(auE (zU ds e) m,yL neg ds (acI ds e (-auE (zU ds e) m)) places)
theorem boK(x:Int)(m:Nat)(hm:0<m):(m:Int)*apG x m≤x∧x<m*apG x m+m:=by
 unfold apG;have h2:=Int.mul_ediv_add_emod x m;have h3:=Int.emod_nonneg x (show(m:Int)≠0 by omega);have h4:=Int.emod_lt_of_pos x (show(0:Int)<m by omega);generalize(m:Int)*(x/m)=u at *;omega
def bnB(l:List ItN)(ex:Nat)(e:Int):List UInt8:=if e<0 then [69,45]else if aaA l ex=[43]then [69,43]else [69]
def cjG(l:List ItN)(ex:Nat)(e:Int):List UInt8:=List.replicate ((agW l ex l.length).length-(dec e.natAbs).length) 48++dec e.natAbs
def ceD(l:List ItN)(ex:Nat)(e:Int)(q:List Pc):List Pc:=(q.set ex (.fx (bnB l ex e))).set ((agW l ex l.length).getD 0 0) (.fx (cjG l ex e))
theorem ayZ(p:Int)(m:Nat)(hm:0<m):auE p m≤p-1∧p-1<auE p m+m:=boK (p-1) m hm
theorem aaI{e x:Int}(h:yE ds e=true)(h1: -100000≤e+x∧e+x≤100000):yE ds (acI ds e x)=true:=by
 unfold acI;by_cases h0:ds=[]
 ·rw[aN h0];exact h
 rw[aM h0];exact bsG h h0 h1
theorem ceB{e:Int}(h:ds=[]):anK neg ds e m places=(0,(neg,ds,e)):=by unfold anK;rw[aN h]
theorem ceA{e:Int}(h:ds≠[])(h1:(m:Int)<zU (yL neg ds (acI ds e (-auE (zU ds e) m)) places).2.1 (yL neg ds (acI ds e (-auE (zU ds e) m)) places).2.2):anK neg ds e m places=(auE (zU ds e) m+m,yL neg ds (acI ds e (-(auE (zU ds e) m+m))) places):=by
 unfold anK;rw[aM h,aN h1]
theorem cdZ{e:Int}(h:ds≠[])(h1:¬(m:Int)<zU (yL neg ds (acI ds e (-auE (zU ds e) m)) places).2.1 (yL neg ds (acI ds e (-auE (zU ds e) m)) places).2.2):anK neg ds e m places=(auE (zU ds e) m,yL neg ds (acI ds e (-auE (zU ds e) m)) places):=by
 unfold anK;rw[aM h,aM h1]
theorem bsR(neg:Bool)(ds:List UInt8)(e:Int)(m:Nat)(places:Int)(hm:0<m)(hm2:m≤10000)(hp: -5000≤zU ds e∧zU ds e≤5000): -20000≤(anK neg ds e m places).1∧(anK neg ds e m places).1≤20000:=by
 have h:=ayZ (zU ds e) m hm;unfold anK;split
 ·simp
 split
 ·show-20000≤auE (zU ds e) m+m∧auE (zU ds e) m+m≤20000;omega
 show-20000≤auE (zU ds e) m∧auE (zU ds e) m≤20000;omega
theorem asM{H:Heap}{b c:Nat}{y:AObj}(h:H.objs c=none)(hc:c≠b):(H.set b y).objs c=none:=(oN _ _ hc).trans h
theorem bvO{H:Heap}{b b' c:Nat}{x y:AObj}(h:(H.set b x).objs c=none)(hc:c≠b'):((H.set b' y).set b x).objs c=none:=by
 by_cases e:c=b
 ·subst e;rw[oS]at h;cases h
 rw[oN _ _ e]at h ⊢;exact asM h hc
theorem btY{a:List Nat}{k:Nat}(h:0<a.length)(hk:a.getD 0 0=k):(a.map bxO)[(0:Int).toNat]?=some (bxO k):=by rw[←hk];exact bbU h
theorem asU{n:Nat}(h:n<100000):(dec n).length≤5:=(afX aC).2 h
def dC(d:Bool×List UInt8×Int):List AV:=[.bool d.1,.str d.2.1,.int .i64 d.2.2]
theorem bfO(l:List ItN)(gr:Bool)(sc:Int)(o:Loc)(b n:Nat)(pcs:List Pc)(hl:l.length≤100000)(hnl:n=l.length)(hpn:pcs.length=n)(neg:Bool)(ds:List UInt8)(e:Int)(hr:yE ds e=true)(m:Nat)(hm:0<m)(hm2:m≤10000)(places:Nat)(hpl:places≤10000)(hp: -5000≤zU ds e∧zU ds e≤5000)(ex:Nat)(hex:ex<l.length)(hdg:agW l ex l.length≠[])(H:Heap)(hb:H.objs b=some (pcR pcs)):ACall prog 97 [.iptr (shC l gr sc o b n),dA neg ds e,.int .i64 (m:Int),.int .i64 (places:Int),.int .i64 (ex:Int)] H (λy H'=>y=dR (anK neg ds e m places).2∧H'=H.set b (pcR (ceD l ex (anK neg ds e m places).1 pcs))):=by
 have hfn:=ayZ (zU ds e) m hm;have hdd:=qC hr;have hrl:=yX hr;have hpe:=qU hr;refine ACall.of_body func97 rfl ntmps97 results97 rfl ?_;iterate 2 refine AX ?_
 refine .e rfl (acJ (tm rfl) (.inr ⟨_,rfl⟩)) ?_;refine .al zr61 (λb10 hb10=>?_);iterate 3 refine AX ?_
 refine AWP.draw [(0,true),(1,false),(2,true),(3,false)] rfl aE ?_;refine AX ?_;refine .s rfl rfl (adL zr61) ?_;rintro _ _ ⟨b12,hb12,rfl,hH⟩;obtain rfl:=hH.symm;have hn10_12:=Heap.ne_of (oS _ _ _) hb12;refine AX ?_;refine .s0 rfl (zL Z61 (tm rfl) (tm rfl) rfl rfl (.inr ⟨_,rfl⟩) (oS _ _ _) (lB rfl)) ?_;rintro _ _ ⟨rfl,hH⟩;obtain rfl:=hH.symm;try first|rw[sS]|rw[sU aB]
 iterate 2 refine AX ?_
 refine AWP.meet (λenv H2=>env=[(0,.iptr (shC l gr sc o b n)),(4,.int .i64 (ex:Int)),(10,.ptr (some ⟨b10,0,none⟩)),(11,.int .i64 (anK neg ds e m places).1),(12,.ptr (some ⟨b12,0,none⟩))]∧H2=(H.set b10 (.box 61 [.bool false,.str [],.int .i64 0])).set b12 (.box 61 (dC (anK neg ds e m places).2))) ?_ ?_
 ·iterate 2 refine AX ?_
  refine .p rfl (zA U61 rfl Z9 (tm rfl)) ?_;iterate 4 refine AX ?_
  refine AWP.cond (tm rfl) (λhc19=>?_) (λhc19=>?_)
  ·try simp only[aL]at hc19
   iterate 4 refine AX ?_
   refine .cl rfl C88 (evs1 rfl) (acT neg ds e hdd _) ?_;iterate 2 refine AX ?_
   refine .cl rfl call175 (evs2 rfl rfl) (bgQ _ m hm aA aA _) ?_;have hqe:(m:Int)*apG (zU ds e-1) m=auE (zU ds e) m:=rfl;iterate 5 refine AX ?_
   rw[hqe];iterate 4 refine AX ?_
   refine .cl rfl C96 (evs2 rfl rfl) (ahZ neg ds e _ aA aA _) ?_;refine AX ?_;refine .cl rfl call98 (evs2 rfl rfl) (alG neg ds _ (aaI hr aA) (places:Int) aA _) (.e0 (zL Z61 (tm rfl) (tm rfl) rfl rfl (.inr ⟨_,rfl⟩) (oS _ _ _) (lB rfl)) ?_);try first|rw[sS]|rw[sU aB]
   iterate 4 refine AX ?_
   refine .e rfl (qA G61 Z61 (tm rfl) (oS _ _ _) (lB rfl)) (.cl rfl C88 (evs1 rfl) (acT _ _ _ (qC (aaD (aaI hr aA))) _) ?_);iterate 4 refine AX ?_
   refine AWP.cond (tm rfl) (λhc36=>?_) (λhc36=>?_)
   ·try simp only[aL]at hc36
    iterate 12 refine AX ?_
    refine .cl rfl C96 (evs2 rfl rfl) (ahZ neg ds e _ aA aA _) ?_;refine AX ?_;refine .cl rfl call98 (evs2 rfl rfl) (alG neg ds _ (aaI hr aA) (places:Int) aA _) (.e0 (zL Z61 (tm rfl) (tm rfl) rfl rfl (.inr ⟨_,rfl⟩) (oS _ _ _) (lB rfl)) ?_);try first|rw[sS]|rw[sU aB]
    iterate 2 refine AX ?_
    refine Meets.mk (M:=λenv H2=>env=[(0,.iptr (shC l gr sc o b n)),(4,.int .i64 (ex:Int)),(10,.ptr (some ⟨b10,0,none⟩)),(11,.int .i64 (anK neg ds e m places).1),(12,.ptr (some ⟨b12,0,none⟩))]∧H2=(H.set b10 (.box 61 [.bool false,.str [],.int .i64 0])).set b12 (.box 61 (dC (anK neg ds e m places).2))) ⟨by rw[ceA aB hc36]<;>rfl,by rw[ceA aB hc36]<;>rfl⟩ sX (hRa _)
   try simp only[aL]at hc36
   iterate 2 refine AX ?_
   refine Meets.mk (M:=λenv H2=>env=[(0,.iptr (shC l gr sc o b n)),(4,.int .i64 (ex:Int)),(10,.ptr (some ⟨b10,0,none⟩)),(11,.int .i64 (anK neg ds e m places).1),(12,.ptr (some ⟨b12,0,none⟩))]∧H2=(H.set b10 (.box 61 [.bool false,.str [],.int .i64 0])).set b12 (.box 61 (dC (anK neg ds e m places).2))) ⟨by rw[cdZ aB aA]<;>rfl,by rw[cdZ aB aA]<;>rfl⟩ sX (hRa _)
  try simp only[aL]at hc19
  iterate 2 refine AX ?_
  refine Meets.mk (M:=λenv H2=>env=[(0,.iptr (shC l gr sc o b n)),(4,.int .i64 (ex:Int)),(10,.ptr (some ⟨b10,0,none⟩)),(11,.int .i64 (anK neg ds e m places).1),(12,.ptr (some ⟨b12,0,none⟩))]∧H2=(H.set b10 (.box 61 [.bool false,.str [],.int .i64 0])).set b12 (.box 61 (dC (anK neg ds e m places).2))) ⟨by rw[ceB aB]<;>rfl,by rw[ceB aB]<;>rfl⟩ sX (hRa _)
 rintro _ _ ⟨rfl,rfl⟩;have hnb10:=Heap.ne_of hb hb10;have hn10b:=hnb10.symm;have hnb12:=Heap.ne_of ((oN _ _ hnb10).trans hb) hb12;have hn12b:=hnb12.symm;have hpw:=bsR neg ds e m places hm hm2 hp;generalize anK neg ds e m places=PW at hpw ⊢;have hd0:0<(agW l ex l.length).length:=bV.2 hdg;have hdl:=adZ l ex l.length;have hdk:(agW l ex l.length).getD 0 0<l.length:=atA (λk hk=>(abI.1 hk).1) hd0;obtain⟨kk,hkk⟩:∃kk,(agW l ex l.length).getD 0 0=kk:=⟨_,rfl⟩;rw[hkk]at hdk;have htn:=asU (n:=PW.1.natAbs) aA;iterate 5 refine AX ?_
 refine AWP.meet (λenv H2=>env=[(0,.iptr (shC l gr sc o b n)),(4,.int .i64 (ex:Int)),(10,.ptr (some ⟨b10,0,none⟩)),(11,.int .i64 PW.1),(12,.ptr (some ⟨b12,0,none⟩)),(13,.str (bnB l ex PW.1))]∧H2=(H.set b10 (.box 61 [.bool false,.str [],.int .i64 0])).set b12 (.box 61 (dC PW.2))) ?_ ?_
 ·iterate 8 refine AX ?_
  refine AWP.cond (tm rfl) (λhc46=>?_) (λhc46=>?_)
  ·try simp only[aL]at hc46
   iterate 2 refine AX ?_
   refine .p rfl (zY (tm rfl) (zO rfl) (by simp only[zQ,aW,bG]at *;omega)) ?_;iterate 4 refine AX ?_
   refine Meets.mk (M:=λenv H2=>env=[(0,.iptr (shC l gr sc o b n)),(4,.int .i64 (ex:Int)),(10,.ptr (some ⟨b10,0,none⟩)),(11,.int .i64 PW.1),(12,.ptr (some ⟨b12,0,none⟩)),(13,.str (bnB l ex PW.1))]∧H2=(H.set b10 (.box 61 [.bool false,.str [],.int .i64 0])).set b12 (.box 61 (dC PW.2))) ⟨rfl,rfl⟩ (zK rfl (zK rfl (zK rfl (zK rfl (zK rfl (zR rfl (by unfold bnB;first|(rw[aN (show PW.1<0 by omega)]<;>rfl)|(rw[aM (show¬PW.1<0 by omega),aN ((abP hex).symm.trans hc51)]<;>rfl)|(rw[aM (show¬PW.1<0 by omega),aM (λq=>hc51 ((abP hex).trans q))]<;>rfl)) yF)))))) (hRa _)
  try simp only[aL]at hc46
  iterate 4 refine AX ?_
  refine .p rfl (zA U89 rfl Z52 (tm rfl)) (.p rfl (zA U52 rfl Z50 (tm rfl)) ?_);iterate 3 refine AX ?_
  refine .p rfl (zA U57 rfl Z9 (tm rfl)) ?_;iterate 5 refine AX ?_
  refine AWP.cond (tm rfl) (λhc51=>?_) (λhc51=>?_)
  ·try simp only[aL]at hc51
   iterate 2 refine AX ?_
   refine .p rfl (zY (tm rfl) (zO rfl) (by simp only[zQ,aW,bG]at *;omega)) ?_;iterate 4 refine AX ?_
   refine Meets.mk (M:=λenv H2=>env=[(0,.iptr (shC l gr sc o b n)),(4,.int .i64 (ex:Int)),(10,.ptr (some ⟨b10,0,none⟩)),(11,.int .i64 PW.1),(12,.ptr (some ⟨b12,0,none⟩)),(13,.str (bnB l ex PW.1))]∧H2=(H.set b10 (.box 61 [.bool false,.str [],.int .i64 0])).set b12 (.box 61 (dC PW.2))) ⟨rfl,rfl⟩ (zK rfl (zK rfl (zK rfl (zK rfl (zK rfl (zR rfl (by unfold bnB;first|(rw[aN (show PW.1<0 by omega)]<;>rfl)|(rw[aM (show¬PW.1<0 by omega),aN ((abP hex).symm.trans hc51)]<;>rfl)|(rw[aM (show¬PW.1<0 by omega),aM (λq=>hc51 ((abP hex).trans q))]<;>rfl)) yF)))))) (hRa _)
  try simp only[aL]at hc51
  iterate 3 refine AX ?_
  refine Meets.mk (M:=λenv H2=>env=[(0,.iptr (shC l gr sc o b n)),(4,.int .i64 (ex:Int)),(10,.ptr (some ⟨b10,0,none⟩)),(11,.int .i64 PW.1),(12,.ptr (some ⟨b12,0,none⟩)),(13,.str (bnB l ex PW.1))]∧H2=(H.set b10 (.box 61 [.bool false,.str [],.int .i64 0])).set b12 (.box 61 (dC PW.2))) ⟨rfl,rfl⟩ (zK rfl (zK rfl (zK rfl (zK rfl (zK rfl (zR rfl (by unfold bnB;first|(rw[aN (show PW.1<0 by omega)]<;>rfl)|(rw[aM (show¬PW.1<0 by omega),aN ((abP hex).symm.trans hc51)]<;>rfl)|(rw[aM (show¬PW.1<0 by omega),aM (λq=>hc51 ((abP hex).trans q))]<;>rfl)) yF)))))) (hRa _)
 rintro _ _ ⟨rfl,rfl⟩;iterate 4 refine AX ?_
 refine .p rfl (zA U89 rfl Z87 (tm rfl)) ?_;refine AX ?_;refine .mv rfl rfl (.mv rfl rfl (.p rfl (yY [(0,1)] U145 V145 (zr145) rfl (pl145 _ U145) (.cons (tm rfl) (.inl rfl) .nil) rfl) (.p rfl (aaT U145 rfl (tm rfl)) (.p rfl (qL U87 Z147 (tm rfl) (tm rfl) aA aA) (.e0 (aaN Pc.av (.fx (bnB l ex PW.1)) ex Z147 (tm rfl) (tm rfl) rfl rfl ((oN _ _ aB).trans ((oN _ _ aB).trans aB)) aA aA) ?_)))));try rw[sS]
 iterate 8 refine AX ?_
 refine .p rfl (zA U89 rfl Z52 (tm rfl)) (.p rfl (zA U52 rfl Z50 (tm rfl)) ?_);iterate 2 refine AX ?_
 refine .cl rfl C95 (evs3 rfl rfl rfl) (adO l gr sc o b n hl ex l.length aA (aZ _) _) ?_;iterate 9 refine AX ?_
 refine .cl rfl C90 (evs1 rfl) (itoaZ _ PW.1.natAbs (by unfold anA;split<;>omega) aA _) ?_;iterate 4 refine AX ?_
 refine AWP.draw [(0,true),(1,true),(2,true),(3,true),(4,true),(5,true),(6,true),(7,true),(8,true),(9,true),(10,true),(11,true),(12,true),(14,true),(13,false),(15,true),(16,true),(17,true),(18,true),(19,false)] rfl aE ?_;iterate 2 refine AX ?_
 refine .p rfl rfl (zA U89 rfl Z87 (tm rfl)) ?_;iterate 2 refine AX ?_
 refine .p rfl rfl (aaY U30 Z3 (tm rfl) zJ aA (btY hd0 hkk)) ?_;iterate 6 refine AX ?_
 refine .p rfl rfl (arP zJ (tm rfl)) (.p rfl rfl (zG (tm rfl)) (.s rfl rfl (zB C103 (.cons (zO rfl) (evs1 rfl)) (repeatZ 48 _ ((agW l ex l.length).length-(dec PW.1.natAbs).length) (by unfold anA;split<;>omega) aA _)) ?_));rintro _ _ ⟨rfl,hH⟩;obtain rfl:=hH.symm;refine .p rfl rfl (zY (tm rfl) (tm rfl) (by exact aeG (by simp only[bE];omega))) (.p rfl rfl (yY [(0,1)] U145 V145 (zr145) rfl (pl145 _ U145) (.cons (tm rfl) (.inl rfl) .nil) rfl) (.p rfl rfl (aaT U145 rfl (tm rfl)) (.p rfl rfl (qL U87 Z147 (tm rfl) (tm rfl) aA aA) (.s0 rfl (aaN Pc.av (.fx (cjG l ex PW.1)) kk Z147 (tm rfl) (tm rfl) rfl rfl (oS _ _ _) aA (by rw[cP];omega)) ?_))));rintro _ _ ⟨rfl,hH⟩;obtain rfl:=hH.symm;rw[sS];iterate 3 refine AX ?_
 rw[Heap.set_comm hn12b,Heap.set_comm hn10b];have hb12:=bvO (y:=pcR ((pcs.set ex (.fx (bnB l ex PW.1))).set kk (.fx (cjG l ex PW.1)))) hb12 hn12b;have hb10:=asM (y:=pcR ((pcs.set ex (.fx (bnB l ex PW.1))).set kk (.fx (cjG l ex PW.1)))) hb10 hn10b;refine AX ?_;refine .e rfl (qA G61 Z61 (tm rfl) (oS _ _ _) (lB rfl)) (.e0 (zL Z61 (tm rfl) (tm rfl) rfl rfl (.inr ⟨_,rfl⟩) ((oN _ _ aB).trans (oS _ _ _)) (lB rfl)) ?_);try first|rw[sS]|rw[sU aB]
 iterate 2 refine AX ?_
 refine AWP.dropb (fS hb12 _) ?_;refine AWP.frz (t:=10) rfl (hb10) ?_;refine AX ?_;refine Ret.go (.cons (.cellI _ _ _ _ rfl G61 Z61 rfl) .nil) _ (hRa _) ?_;refine⟨rfl,?_⟩;unfold ceD;rw[hkk];rfl
end
section
open Go Go.RowKit
set_option maxRecDepth 100000
theorem awP(l:List ItN){ks js:List Int}(h:∀k,k∈ks→k∈js):zZ l js≤zZ l ks:=by
 unfold zZ;refine List.findIdx_le_findIdx λx _ hx=>?_;simp only[aT]at *;exact h _ hx
def bjJ(l:List ItN)(ds:List UInt8)(e:Int):Int:=if zZ l [4]<l.length then acI ds e 2 else e
def aiT(l:List ItN):List Nat:=agW l 0 (zZ l [3,5])
def acZ(l:List ItN):List Nat:=agW l (zZ l [3,5]) (zZ l [5])
def ckR(l:List ItN)(neg:Bool)(ds:List UInt8)(e:Int):Int×(Bool×List UInt8×Int):=anK neg ds (bjJ l ds e) (max 1 (aiT l).length) ((acZ l).length:Int)
def apE(l:List ItN)(sc:Int)(neg:Bool)(ds:List UInt8)(e:Int):Bool×List UInt8×Int:=
 if zZ l [5]<l.length then(ckR l neg ds e).2 else yL neg ds (acI ds (bjJ l ds e) (-3*sc)) ((acZ l).length:Int)
def bjI(l:List ItN)(neg:Bool)(ds:List UInt8)(e:Int)(q:List Pc):List Pc:=if zZ l [5]<l.length then ceD l (zZ l [5]) (ckR l neg ds e).1 q else q
def abJ(d:Bool×List UInt8×Int)(k:Nat):List UInt8×List UInt8:=adC d.2.1 (zU d.2.1 d.2.2) k
def ckE(l:List ItN)(gr:Bool)(o:Loc)(w r:List UInt8)(q:List Pc):List Pc:=
 acF l (aaS o gr) w true false (aiT l) (if(aiT l).length=0 then(aaQ l r (abL l 0 (acZ l) (aeS r)) 0 (acZ l) q).set (zZ l [3,5]) (.fx (w++o.dc))else aaQ l r (abL l 0 (acZ l) (aeS r)) 0 (acZ l) q)
def bdO(l:List ItN)(gr:Bool)(sc:Int)(o:Loc)(neg:Bool)(ds:List UInt8)(e:Int)(q:List Pc):List Pc:=
 ckE l gr o (abJ (apE l sc neg ds e) (acZ l).length).1 (abJ (apE l sc neg ds e) (acZ l).length).2 (bjI l neg ds e q)
theorem aiD(l:List ItN)(row:List UInt8)(la i:Nat)(r:List Nat)(q:List Pc):(aaQ l row la i r q).length=q.length:=by
 induction r generalizing i q with
 |nil=>rfl
 |cons k r ih=>rw[aaQ,ih,cP]
theorem ayH(l:List ItN)(neg:Bool)(ds:List UInt8)(e:Int)(q:List Pc):(bjI l neg ds e q).length=q.length:=by
 unfold bjI ceD;split<;>simp
theorem chF{e:Int}:(mkN neg ds e).1.2.1=[]∨e≤(mkN neg ds e).1.2.2:=by
 unfold mkN;split
 ·exact .inl rfl
 split
 ·exact .inr (by show e≤e+_;omega)
 exact .inl rfl
theorem acW{e:Int}(h:yE ds e=true):(yL neg ds e k).2.1=[]∨ -k≤(yL neg ds e k).2.2:=by
 unfold yL adF;rw[qU h];split
 ·unfold bcY;rcases chF (neg:=neg) (ds:=if upB (akN ds (ds.length+e+k))=true then apT (aeM ds (ds.length+e+k))else aeM ds (ds.length+e+k)) (e:=e+ds.length-(ds.length+e+k))with h|h
  ·exact .inl h
  exact .inr aA
 rename_i hn
 by_cases h0:ds=[]
 ·exact .inl h0
 exact .inr (by have:¬(ds.length:Int)+e+k<ds.length:=λq=>hn ⟨h0,q⟩
                show-k≤e;omega)
theorem cgN{e:Int}(h:yE ds e=true)(hm:0<m)(hm2:m≤10000)(hp: -5000≤zU ds e∧zU ds e≤5000):yE (anK neg ds e m k).2.2.1 (anK neg ds e m k).2.2.2=true∧((anK neg ds e m k).2.2.1=[]∨ -k≤(anK neg ds e m k).2.2.2):=by
 have hf:=ayZ (zU ds e) m hm;have hpe:=qU h;have hl:=yX h;unfold anK;split
 ·rename_i h0;exact⟨h,.inl h0⟩
 split
 ·exact⟨aaD (aaI h aA),acW (aaI h aA)⟩
 exact⟨aaD (aaI h aA),acW (aaI h aA)⟩
theorem bdV{e x:Int}(h:yE ds e=true)(h1: -100000≤e+x∧e+x≤100000):zU ds (acI ds e x)=if ds=[]then zU ds e else zU ds e+x:=by
 rw[qU (aaI h h1),qU h];unfold acI;split
 ·rfl
 omega
theorem bfY{l:List ItN}{e:Int}(h:yE ds e=true)(hp: -4000≤zU ds e∧zU ds e≤4000):yE ds (bjJ l ds e)=true∧ -4000≤zU ds (bjJ l ds e)∧zU ds (bjJ l ds e)≤4002:=by
 have hpe:=qU h;have hl:=yX h;unfold bjJ;split
 ·refine⟨aaI h aA,?_⟩;rw[bdV h aA];split<;>omega
 exact⟨h,hp.1,by omega⟩
theorem asB{l:List ItN}{sc:Int}{e:Int}(h:yE ds e=true)(hp: -4000≤zU ds e∧zU ds e≤4000)(hl:l.length≤10000)(hsc:0≤sc∧sc≤20000):yE (apE l sc neg ds e).2.1 (apE l sc neg ds e).2.2=true∧((apE l sc neg ds e).2.1=[]∨ -((acZ l).length:Int)≤(apE l sc neg ds e).2.2):=by
 obtain⟨h1,h2⟩:=bfY (l:=l) h hp;have hpe:=qU h1;have hll:=yX h1;have ha:(aiT l).length≤l.length:=bC (adZ _ _ _) (aaX _ _);unfold apE;split
 ·exact cgN h1 aA aA aA
 exact⟨aaD (aaI h1 aA),acW (aaI h1 aA)⟩
theorem aiA{d:Bool×List UInt8×Int}{k:Nat}(h:yE d.2.1 d.2.2=true)(hx:d.2.1=[]∨ -(k:Int)≤d.2.2):(abJ d k).2.length=k∧(abJ d k).1.length≤101100:=by
 have hp:=qU h;have hl:=yX h;have hx2:d.2.1=[]∨(d.2.1.length:Int)≤zU d.2.1 d.2.2+k:=by rcases hx with h|h;exact .inl h;exact .inr aA
 refine⟨blT hx2,?_⟩;unfold abJ;rw[←cdR hx2];unfold clY;split
 ·simp
 simp only[cE,List.length_range];omega
theorem cgP(l:List ItN)(gr:Bool)(sc:Int)(o:Loc)(b n:Nat)(pcs:List Pc)(hl:l.length≤100000)(hnl:n=l.length)(hpn:pcs.length=n)(neg:Bool)(ds:List UInt8)(e:Int)(hr:yE ds e=true)(m:Nat){z:Int}(hz:z=(m:Int))(hm:0<m)(hm2:m≤10000)(places:Nat)(hpl:places≤10000)(hp: -5000≤zU ds e∧zU ds e≤5000)(ex:Nat)(hex:ex<l.length)(hdg:agW l ex l.length≠[])(H:Heap)(hb:H.objs b=some (pcR pcs)):ACall prog 97 [.iptr (shC l gr sc o b n),dA neg ds e,.int .i64 z,.int .i64 (places:Int),.int .i64 (ex:Int)] H (λy H'=>y=dR (anK neg ds e m places).2∧H'=H.set b (pcR (ceD l ex (anK neg ds e m places).1 pcs))):=by
 subst hz;exact bfO l gr sc o b n pcs hl hnl hpn neg ds e hr m hm hm2 places hpl hp ex hex hdg H hb
theorem bbS(l:List ItN)(gr:Bool)(sc:Int)(o:Loc)(b n:Nat)(pcs:List Pc)(ho:o.ok)(hs2:o.second=2∨o.second=3)(hl:l.length≤10000)(hsc:0≤sc∧sc≤20000)(hnl:n=l.length)(hpn:pcs.length=n)(neg:Bool)(ds:List UInt8)(e:Int)(hr:yE ds e=true)(hp: -4000≤zU ds e∧zU ds e≤4000)(hpt:(aiT l).length=0→zZ l [3,5]<l.length)(hdg:zZ l [5]<l.length→agW l (zZ l [5]) l.length≠[])(H:Heap)(hb:H.objs b=some (pcR pcs)):ACall prog 39 [.iptr (shC l gr sc o b n),dA neg ds e] H (λy H'=>y= .bool (decide ((apE l sc neg ds e).2.1≠[]))∧H'=H.set b (pcR (bdO l gr sc o neg ds e pcs))):=by
 have hc1:=aaX l [3,5];have hc2:=aaX l [5];have hc3:=awP l (ks:=[5]) (js:=[3,5]) (λk hk=>gE _ hk);have hrl:=yX hr;have hpe:=qU hr;obtain⟨hr1,hp1⟩:=bfY (l:=l) hr hp;have hpe1:=qU hr1;have hrl1:=yX hr1;have hla:(aiT l).length≤l.length:=bC (adZ _ _ _) hc1;have hlb:(acZ l).length≤l.length:=bC (adZ _ _ _) hc2;have hnok:=asB (l:=l) (sc:=sc) (neg:=neg) hr hp hl hsc;have hnl2:=yX hnok.1;have hnp:=qU hnok.1;have hsl:=aiA hnok.1 hnok.2;refine ACall.of_body func39 rfl ntmps39 results39 rfl ?_;iterate 2 refine AX ?_
 refine .s rfl (ajM (tm rfl) (.inr ⟨_,rfl⟩)) ?_;rintro _ _ ⟨b3,hb3,rfl,hH⟩;obtain rfl:=hH.symm;iterate 4 refine AX ?_
 have hnb3:=Heap.ne_of hb hb3;have hn3b:=hnb3.symm;iterate 2 refine AX ?_
 refine .e rfl (aeT U30 Z3 V3 rfl zJ (.inl rfl) ⟨rfl,rfl⟩ zJ (.inl rfl) ⟨rfl,rfl⟩) (.e rfl (zB C94 (evs2 rfl rfl) (agJ l gr sc o b n aA [3,5] _ aC _)) ?_);refine AX ?_;refine .e rfl (yJ U30 Z3 V3 rfl zJ (.inl rfl) ⟨rfl,rfl⟩) (.e rfl (zB C94 (evs2 rfl rfl) (agJ l gr sc o b n aA [5] _ aC _)) ?_);iterate 8 refine AX ?_
 refine .e rfl (zB C95 (.cons (tm rfl) (.cons zJ (evs1 rfl))) (adO l gr sc o b n aA 0 (zZ l [3,5]) (Nat.zero_le _) hc1 _)) ?_;iterate 3 refine AX ?_
 refine .e rfl (zB C95 (evs3 rfl rfl rfl) (adO l gr sc o b n aA (zZ l [3,5]) (zZ l [5]) hc3 hc2 _)) ?_;iterate 4 refine AX ?_
 refine AWP.meet (λenv H2=>env=[(0,.iptr (shC l gr sc o b n)),(3,.ptr (some ⟨b3,0,none⟩)),(5,.int .i64 (zZ l [3,5]:Int)),(6,.int .i64 (zZ l [5]:Int)),(7,afG (aiT l) .shared),(8,afG (acZ l) .shared)]∧H2=(H.set b3 (.box 61 [.bool neg,.str ds,.int .i64 (bjJ l ds e)]))) ?_ ?_
 ·refine AX ?_;refine AWP.draw [(0,true),(1,true),(3,true),(4,true),(5,true),(6,true),(7,true),(8,true),(2,false),(9,true)] rfl aE ?_;refine AX ?_;refine APlan.f rfl rfl (λ_=>yJ U30 Z3 V3 rfl zJ (.inl rfl) ⟨rfl,rfl⟩) ?_;iterate 2 refine AX ?_
  refine .p rfl rfl (zA U89 rfl Z52 (tm rfl)) (.p rfl rfl (zA U52 rfl Z50 (tm rfl)) ?_);iterate 2 refine AX ?_
  refine .s rfl rfl (zB C94 (evs2 rfl rfl) (agJ l gr sc o b n aA [4] _ aC _)) ?_;rintro _ _ ⟨rfl,hH⟩;obtain rfl:=hH.symm;iterate 3 refine AX ?_
  refine AWP.cond (tm rfl) (λhc33=>?_) (λhc33=>?_)
  ·try simp only[aL]at hc33
   refine AX ?_;refine .e rfl (qA G61 Z61 (tm rfl) (oS _ _ _) (lB rfl)) (.e rfl (zB C96 (.cons (tm rfl) (.cons zJ .nil)) (ahZ neg ds e 2 aA aA _)) (.e0 (zL Z61 (tm rfl) (tm rfl) rfl rfl (.inr ⟨_,rfl⟩) (oS _ _ _) (lB rfl)) ?_));try first|rw[sS]|rw[sU aB]
   iterate 2 refine AX ?_
   refine Meets.mk (M:=λenv H2=>env=[(0,.iptr (shC l gr sc o b n)),(3,.ptr (some ⟨b3,0,none⟩)),(5,.int .i64 (zZ l [3,5]:Int)),(6,.int .i64 (zZ l [5]:Int)),(7,afG (aiT l) .shared),(8,afG (acZ l) .shared)]∧H2=(H.set b3 (.box 61 [.bool neg,.str ds,.int .i64 (bjJ l ds e)]))) ⟨rfl,by unfold bjJ;rw[aK];rfl⟩ sX (hRa _)
  try simp only[aL]at hc33
  iterate 2 refine AX ?_
  refine Meets.mk (M:=λenv H2=>env=[(0,.iptr (shC l gr sc o b n)),(3,.ptr (some ⟨b3,0,none⟩)),(5,.int .i64 (zZ l [3,5]:Int)),(6,.int .i64 (zZ l [5]:Int)),(7,afG (aiT l) .shared),(8,afG (acZ l) .shared)]∧H2=(H.set b3 (.box 61 [.bool neg,.str ds,.int .i64 (bjJ l ds e)]))) ⟨rfl,by unfold bjJ;rw[aJ];rfl⟩ sX (hRa _)
 rintro _ _ ⟨rfl,rfl⟩;refine AWP.meet (λenv H2=>env=[(0,.iptr (shC l gr sc o b n)),(3,.ptr (some ⟨b3,0,none⟩)),(5,.int .i64 (zZ l [3,5]:Int)),(6,.int .i64 (zZ l [5]:Int)),(7,afG (aiT l) .shared),(8,afG (acZ l) .shared)]∧H2=(H.set b3 (.box 61 (dC (apE l sc neg ds e)))).set b (pcR (bjI l neg ds e pcs))) ?_ ?_
 ·iterate 5 refine AX ?_
  refine .p rfl (zA U89 rfl Z52 (tm rfl)) (.p rfl (zA U52 rfl Z50 (tm rfl)) ?_);iterate 5 refine AX ?_
  refine AWP.cond (tm rfl) (λhc43=>?_) (λhc43=>?_)
  ·try simp only[aL]at hc43
   iterate 2 refine AX ?_
   refine .e rfl (qA G61 Z61 (tm rfl) (oS _ _ _) (lB rfl)) ?_;iterate 6 refine AX ?_
   refine .e rfl (zB call97 (.cons (tm rfl) (.cons (tm rfl) (evs3 rfl rfl rfl))) (cgP l gr sc o b n pcs aA hnl hpn neg ds _ hr1 (max 1 (aiT l).length) (by unfold anA;split<;>omega) aA aA (acZ l).length aA aA (zZ l [5]) aA (hdg aA) _ ((oN _ _ hnb3).trans hb))) ?_;refine .e0 (zL Z61 (tm rfl) (tm rfl) rfl rfl (.inr ⟨_,rfl⟩) ((oN _ _ aB).trans (oS _ _ _)) (lB rfl)) ?_;try first|rw[sS]|rw[sU aB]
   iterate 2 refine AX ?_
   refine Meets.mk (M:=λenv H2=>env=[(0,.iptr (shC l gr sc o b n)),(3,.ptr (some ⟨b3,0,none⟩)),(5,.int .i64 (zZ l [3,5]:Int)),(6,.int .i64 (zZ l [5]:Int)),(7,afG (aiT l) .shared),(8,afG (acZ l) .shared)]∧H2=(H.set b3 (.box 61 (dC (apE l sc neg ds e)))).set b (pcR (bjI l neg ds e pcs))) ⟨rfl,by unfold apE bjI;rw[aK,aK];rfl⟩ sX (hRa _)
  try simp only[aL]at hc43
  refine AWP.draw [(1,true),(2,true),(3,true),(4,true),(5,true),(6,true),(8,true),(9,true),(0,false),(7,false),(10,false),(11,false)] rfl aE ?_;iterate 2 refine AX ?_
  refine .p rfl rfl (zA U89 rfl Z52 (tm rfl)) (.p rfl rfl (zA U52 rfl Z3 (tm rfl)) ?_);iterate 4 refine AX ?_
  refine .s rfl rfl (qA G61 Z61 (tm rfl) (oS _ _ _) (lB rfl)) ?_;rintro _ _ ⟨rfl,hH⟩;obtain rfl:=hH.symm;refine .s rfl rfl (zB C96 (evs2 rfl rfl) (ahZ neg ds _ _ aA aA _)) ?_;rintro _ _ ⟨rfl,hH⟩;obtain rfl:=hH.symm;refine .s rfl rfl (zB call98 (evs2 rfl rfl) (alG neg ds _ (aaI hr1 aA) _ aA _)) ?_;rintro _ _ ⟨rfl,hH⟩;obtain rfl:=hH.symm;refine .s0 rfl (zL Z61 (tm rfl) (tm rfl) rfl rfl (.inr ⟨_,rfl⟩) (oS _ _ _) (lB rfl)) ?_;rintro _ _ ⟨rfl,hH⟩;obtain rfl:=hH.symm;try first|rw[sS]|rw[sU aB]
  iterate 2 refine AX ?_
  refine Meets.mk (M:=λenv H2=>env=[(0,.iptr (shC l gr sc o b n)),(3,.ptr (some ⟨b3,0,none⟩)),(5,.int .i64 (zZ l [3,5]:Int)),(6,.int .i64 (zZ l [5]:Int)),(7,afG (aiT l) .shared),(8,afG (acZ l) .shared)]∧H2=(H.set b3 (.box 61 (dC (apE l sc neg ds e)))).set b (pcR (bjI l neg ds e pcs))) ⟨rfl,by unfold apE bjI;rw[aJ,aJ];exact(Heap.set_self ((oN _ _ hnb3).trans hb)).symm⟩ sX (hRa _)
 rintro _ _ ⟨rfl,rfl⟩;have hql:=(ayH l neg ds e pcs).trans hpn;unfold bdO ckE abJ;unfold abJ at hsl;generalize apE l sc neg ds e=D at *;generalize bjI l neg ds e pcs=Q1 at *;iterate 2 refine AX ?_
 refine .e rfl (qA G61 Z61 (tm rfl) ((oN _ _ aB).trans (oS _ _ _)) (lB rfl)) ?_;iterate 2 refine AX ?_
 refine .e rfl (zB call99 (evs2 rfl rfl) (aoO _ _ _ (qC hnok.1) aA aA (acZ l).length aA _)) ?_;generalize adC D.2.1 (zU D.2.1 D.2.2) (acZ l).length=S at hsl ⊢;iterate 12 refine AX ?_
 refine .s rfl (zB call100 (evs3 rfl rfl rfl) (axN l gr sc o b n S.2 (acZ l) Q1 aA hnl hql (λk hk=>by have:=(abI.1 hk).1;omega) aA aA _ (oS _ _ _))) ?_;rintro _ _ hH;obtain rfl:=hH;rw[sS];iterate 2 refine AX ?_
 refine AWP.meet (λenv H2=>env=[(0,.iptr (shC l gr sc o b n)),(3,.ptr (some ⟨b3,0,none⟩)),(5,.int .i64 (zZ l [3,5]:Int)),(6,.int .i64 (zZ l [5]:Int)),(7,afG (aiT l) .shared),(8,afG (acZ l) .shared),(9,.str S.1)]∧H2=(H.set b3 (.box 61 (dC D))).set b (pcR (if(aiT l).length=0 then(aaQ l S.2 (abL l 0 (acZ l) (aeS S.2)) 0 (acZ l) Q1).set (zZ l [3,5]) (.fx (S.1++o.dc))else(aaQ l S.2 (abL l 0 (acZ l) (aeS S.2)) 0 (acZ l) Q1)))) ?_ ?_
 ·iterate 7 refine AX ?_
  refine AWP.cond (tm rfl) (λhc77=>?_) (λhc77=>?_)
  ·try simp only[aL]at hc77
   refine AWP.draw [(0,true),(1,true),(2,true),(3,true),(4,true),(5,true),(6,true),(7,true),(8,true),(9,true),(10,true),(11,true),(12,true),(13,true),(14,true),(15,false)] rfl aE ?_;iterate 2 refine AX ?_
   refine .p rfl rfl (zA U89 rfl Z87 (tm rfl)) ?_;iterate 5 refine AX ?_
   refine .p rfl rfl (zA U89 rfl Z32 (tm rfl)) (.p rfl rfl (zA U32 rfl Z9 (tm rfl)) (.p rfl rfl (zW G9 (tm rfl)) ?_));refine .p rfl rfl (zY (tm rfl) (tm rfl) (by rw[zQ];have h1:=ho.1;omega)) ?_;refine .p rfl rfl (yY [(0,1)] U145 V145 (zr145) rfl (pl145 _ U145) (.cons (tm rfl) (.inl rfl) .nil) rfl) (.p rfl rfl (aaT U145 rfl (tm rfl)) (.p rfl rfl (qL U87 Z147 (tm rfl) (tm rfl) aA aA) (.s0 rfl (aaN Pc.av (.fx (S.1++o.dc)) (zZ l [3,5]) Z147 (tm rfl) (tm rfl) rfl rfl (oS _ _ _) aA (by rw[aiD];omega)) ?_)));rintro _ _ ⟨rfl,hH⟩;obtain rfl:=hH.symm;rw[sS];iterate 2 refine AX ?_
   refine Meets.mk (M:=λenv H2=>env=[(0,.iptr (shC l gr sc o b n)),(3,.ptr (some ⟨b3,0,none⟩)),(5,.int .i64 (zZ l [3,5]:Int)),(6,.int .i64 (zZ l [5]:Int)),(7,afG (aiT l) .shared),(8,afG (acZ l) .shared),(9,.str S.1)]∧H2=(H.set b3 (.box 61 (dC D))).set b (pcR (if(aiT l).length=0 then(aaQ l S.2 (abL l 0 (acZ l) (aeS S.2)) 0 (acZ l) Q1).set (zZ l [3,5]) (.fx (S.1++o.dc))else(aaQ l S.2 (abL l 0 (acZ l) (aeS S.2)) 0 (acZ l) Q1)))) ⟨rfl,by rw[aK];rfl⟩ sX (hRa _)
  try simp only[aL]at hc77
  iterate 2 refine AX ?_
  refine Meets.mk (M:=λenv H2=>env=[(0,.iptr (shC l gr sc o b n)),(3,.ptr (some ⟨b3,0,none⟩)),(5,.int .i64 (zZ l [3,5]:Int)),(6,.int .i64 (zZ l [5]:Int)),(7,afG (aiT l) .shared),(8,afG (acZ l) .shared),(9,.str S.1)]∧H2=(H.set b3 (.box 61 (dC D))).set b (pcR (if(aiT l).length=0 then(aaQ l S.2 (abL l 0 (acZ l) (aeS S.2)) 0 (acZ l) Q1).set (zZ l [3,5]) (.fx (S.1++o.dc))else(aaQ l S.2 (abL l 0 (acZ l) (aeS S.2)) 0 (acZ l) Q1)))) ⟨rfl,by rw[aJ]⟩ sX (hRa _)
 rintro _ _ ⟨rfl,rfl⟩;have hq2:(if(aiT l).length=0 then(aaQ l S.2 (abL l 0 (acZ l) (aeS S.2)) 0 (acZ l) Q1).set (zZ l [3,5]) (.fx (S.1++o.dc))else(aaQ l S.2 (abL l 0 (acZ l) (aeS S.2)) 0 (acZ l) Q1)).length=n:=by split<;>simp only[cP,aiD]<;>exact hql
 iterate 5 refine AX ?_
 refine .s rfl (zB call101 (evs3 rfl rfl rfl) (aiY l gr sc o b n S.1 (aiT l) _ ho hs2 aA hnl hq2 (λk hk=>by have:=(abI.1 hk).1;omega) aA aA _ (oS _ _ _))) ?_;rintro _ _ hH;obtain rfl:=hH;rw[sS];iterate 3 refine AX ?_
 rw[Heap.set_comm hn3b];have hb3:=asM (y:=pcR []) hb3 hn3b;refine AX ?_;refine .p rfl (zC U61 rfl Z9 (tm rfl)) (.e rfl (zM G9 (tm rfl) (oS _ _ _) rfl) ?_);iterate 4 refine AX ?_
 refine AWP.dropb (fS hb3 _) ?_;refine AX ?_;refine Ret.go (.cons (.tmp _ _ rfl) .nil) _ (hRa _) ?_;refine⟨congrArg AV.bool ?_,rfl⟩;by_cases q:D.2.1=[]<;>simp[q]
end
end Go.Proofs.YteedncdcbgplfaaGreatDoor
