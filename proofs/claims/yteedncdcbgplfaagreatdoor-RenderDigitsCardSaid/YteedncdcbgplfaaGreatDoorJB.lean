import Derived.Test.YteedncdcbgplfaaGreatDoorJ9
set_option maxHeartbeats 1000000
namespace Go.Proofs.YteedncdcbgplfaaGreatDoor
open Go.Proofs.Tryz
open Go Go.RowKit
variable{neg:Bool}{ds:List UInt8}{k:Nat}{l:List ItN}
section
open Go Go.RowKit
def whW(l:List ItN)(mk:Nat→List UInt8)(row:List UInt8)(at_:List Nat)(lead:Nat)(ws:List (List UInt8)):List (List UInt8):=
 if at_.length=0 then ws.set lead (ajQ mk row 0++ws.getD lead [])else aiM l mk row true false at_ ws
open Go Go.RowKit
set_option maxRecDepth 100000
theorem beQ(neg:Bool)(ds:List UInt8)(e:Int)(n:Int):Fn 133 [dA neg ds e,.int .i64 n,.int .i64 1] (dT ((neg,[],0),0)):=by
 intro H;refine .of_body func133 rfl ntmps133 results133 rfl ?_;iterate 3 refine AX ?_
 refine .al zr61 (λb6 hb6=>?_);iterate 27 refine AX ?_
 refine .cond_false (tm rfl) aD ?_;iterate 4 refine AX ?_
 refine .p rfl (zA U61 rfl Z4 (tm rfl)) ?_;refine AX ?_;refine .p rfl (yU zr61 pl61 (.cons (tm rfl) (.inl rfl) .nil) rfl) ?_;iterate 4 refine AX ?_
 refine .frz (t:=6) rfl (hb6) ?_;iterate 2 refine AX ?_
 exact⟨rfl,rfl⟩
section
variable{P:Program}{dst:Option Tmp}{ty:TypeId}{pos:String}{af:Array Go.Edge}{gd:Option (Nat×Bool)}{env:Env}{H:Heap}
theorem baJ{T T' E:TypeId}{x y:Operand}{k:IntKind}{xs:List Nat}{tl':Tail}{ti:TypeInfo}(hu:P.underlying T=some (.slice E))(hu':P.underlying T'=some (.slice E))
  (hs:∀w,(sizeOf E).run P w= .ok 1 w)(hti:∀w,(typeInfo E).run P w= .ok ti w)
  (hx:Ev env x (.slice 1 (U k xs) .full))(hx0:xs≠[])(hy:Ev env y (.slice 1 (U k []) tl')):
  AStep P ⟨dst,.call {callee:=.builtin .append,args:= #[x,y],argTypes:= #[T,T']},ty,pos,af,gd⟩ env H (λr H'=>r= .slice 1 (U k xs) .full∧H'=H):=by
 intro g n a w ka s;obtain⟨vx,hex,hvx⟩:=ev1 hx ka;obtain⟨vy,hey,hvy⟩:=ev1 hy ka;obtain⟨us,hus,hlenY,hfirst⟩:=acR (P:=P) hvy (alS k []);rw[ceY]at hus;rw[adH]at hlenY;have hus0:us= #[]:=Array.eq_empty_of_size_eq_zero (by rw[←hus.1];rfl);have imm:∀b k u,g.imm b k=some u→w.cell? ⟨b,k,none⟩=some u:=λb k u hu=>s.imm b k u hu;have i2:=hfirst w imm;rw[adH,hus0]at i2;have hp:∃p,vx= .slice (some p) xs.length xs.length:=by
  have hvx2:=hvx;generalize hq:U k xs=ws at hvx2;have hl:ws.length=xs.length:=by rw[←hq,adH]
  cases hvx2 with
  |nilSlice=>exact absurd (cW hl.symm) hx0
  |slice sz xs tl b off cap vs hsz hi hr hlen hcap htl=>
   have:(cap-ws.length)*1=0:=htl;exact⟨⟨b,off,none⟩,by rw[show cap=ws.length by omega,hl]⟩
 obtain⟨p,rfl⟩:=hp;have hrun:(execOp a.eval ⟨dst,.call {callee:=.builtin .append,args:= #[x,y],argTypes:= #[T,T']},ty,pos,af,gd⟩).run P w= .ok (.value (.slice (some p) xs.length xs.length)) w:=by
  have hl0:Builtin.lenOf (.slice (some p) xs.length xs.length)=(pure xs.length:Sem Nat):=rfl;simp only[yO,builtin,Builtin.append_];simp[hex,hey,underlying,hu,hu',hs,hlenY,hti];have i3:(Builtin.firstCells 1 0 vy).run P w= .ok #[] w:=i2;rw[i3];simp;rfl
 rw[hrun];exact⟨g,_,H,.id,hvx,s,rfl,rfl⟩
end
theorem cmM(neg:Bool)(ds:List UInt8)(e:Int):bcY neg ds e 0=bpC neg ds e 0:=by
 unfold bcY bpC akN aeM anA asK;simp
def cgL(neg:Bool)(ds:List UInt8)(e:Int)(n b6 b c:Nat)(ts:List Nat)(H:Heap):Nat→Env→Heap→Prop:=λk env H1=>∃j:Nat,j=0∧env=[(3,.iptr [.bool neg,.str ds,.int .i64 e]),(6,.ptr (some ⟨b6,0,none⟩)),(8,.int .i64 (e+(ds.length:Int)-(n:Int))),(9,.mslice (some ⟨b,0,none⟩) n c),(14,.int .i64 ((j:Int)-1))]∧H1=(H.set b6 (.box 61 [.bool false,.str [],.int .i64 0])).set b (.box 5 (U .u8 ts))∧k=j
theorem beV(neg:Bool)(ds:List UInt8)(e:Int)(n:Nat)(_:Digs ds)(hn:n=0)(hn2:n<ds.length)(hl:ds.length≤2000)(he: -200000≤e∧e≤200000):Fn 134 [dA neg ds e,.int .i64 (n:Int),.int .i64 1] (dT (bpC neg ds e n)):=by
 intro H;have hdn:ds.drop n≠[]:=by intro h;have:=congrArg List.length h;simp at this;omega
 have hup:=bvC hdn;have hkn:(ds.take n).length=n:=by rw[aV];omega
 have hml:=zQ;have hnp:decide ((0:Int)<(n:Int))=false:=aS aA;have hdp:=bV.2 hdn;have hk0:ds.take n=[]:=cW aA;refine .of_body func134 rfl ntmps134 results134 rfl ?_;iterate 3 refine AX ?_
 refine .al zr61 (λb6 hb6=>?_);iterate 5 refine AX ?_
 refine .p rfl (zA U61 rfl Z3 (tm rfl)) ?_;refine AX ?_;refine .p rfl (zA U61 rfl Z9 (tm rfl)) ?_;iterate 10 refine AX ?_
 refine .p rfl (zA U61 rfl Z9 (tm rfl)) ?_;iterate 3 refine AX ?_
 refine .s rfl (auP U9 U252 U5 (tm rfl) (by(rw[aV];omega))) ?_;rintro _ _ ⟨b27,c27,rfl,hcl27,hcm27,hb27,hH⟩;obtain rfl:=hH.symm;iterate 4 refine AX ?_
 have hne6:=Heap.fresh_ne hb27;rw[bwO,show((n:Int)).toNat=n from rfl,hkn];generalize hts:(ds.take n).map UInt8.toNat++List.replicate (c27-n) 0=ts;refine AX ?_;refine .p rfl (zA U61 rfl Z9 (tm rfl)) ?_;iterate 7 refine AX ?_
 rw[show((n:Int)).toNat=n from rfl];iterate 4 refine AX ?_
 refine .seqToL [(11,.int .i64 (apK (ds.drop n)))] [1,2,3,6,7,8,9,10] ?_ ?_
 ·iterate 6 refine AX ?_
  refine .cond_true (tm rfl) (by show(!decide (ds.drop n=[]))=true;rw[aS hdn];rfl) ?_;iterate 5 refine AX ?_
  refine .seqToL [(11,.int .i64 (if(decide ((53:Int)<((((ds.drop n).getD 0 0).toNat:Nat):Int))||(decide (((((ds.drop n).getD 0 0).toNat:Nat):Int)=53)&&decide ((1:Int)<((ds.drop n).length:Int))))=true then 1 else-1))] [1,2,3,6,7,8,9,10] ?_ ?_
  ·refine .seqTo 46 (.bool ((decide ((53:Int)<((((ds.drop n).getD 0 0).toNat:Nat):Int))||(decide (((((ds.drop n).getD 0 0).toNat:Nat):Int)=53)&&decide ((1:Int)<((ds.drop n).length:Int)))))) [1,2,3,6,7,8,9,10,11] ?_ ?_
   ·iterate 3 refine AX ?_
    iterate 2 refine AM ?_
    refine zD (t:=37) rfl (λhg37=>?_) (λhg37=>?_)
    ·have hh37:=hg37;try simp only[aL]at hh37
     iterate 10 refine AX ?_
     exact⟨rfl,zS rfl (by(rw[show decide ((53:Int)<((((ds.drop n).getD 0 0).toNat:Nat):Int))=_ from hg37];rfl)) sX,rfl⟩
    have hh37:=hg37;try simp only[aL]at hh37
    iterate 2 refine AX ?_
    iterate 2 refine AM ?_
    refine zD (t:=41) rfl (λhg41=>?_) (λhg41=>?_)
    ·have hh41:=hg41;try simp only[aL]at hh41
     iterate 6 refine AX ?_
     exact⟨rfl,zS rfl (by(rw[show decide ((53:Int)<((((ds.drop n).getD 0 0).toNat:Nat):Int))=_ from hg37,show decide (((((ds.drop n).getD 0 0).toNat:Nat):Int)=53)=_ from hg41];rfl)) sX,rfl⟩
    have hh41:=hg41;try simp only[aL]at hh41
    iterate 6 refine AX ?_
    exact⟨rfl,zS rfl (by(rw[show decide ((53:Int)<((((ds.drop n).getD 0 0).toNat:Nat):Int))=_ from hg37,show decide (((((ds.drop n).getD 0 0).toNat:Nat):Int)=53)=_ from hg41];rfl)) sX,rfl⟩
   refine .sub [(46,_),(1,_),(2,_),(3,_),(6,_),(7,_),(8,_),(9,_),(10,_),(11,_)] sX ?_;refine .cx rfl (λhc46=>?_) (λhc46=>?_)
   ·iterate 3 refine AX ?_
    exact⟨rfl,(zR rfl (by(rw[aN hc46];done)) sX),rfl⟩
   refine AX ?_;exact⟨rfl,(zR rfl (by(rw[aM (by rw[hc46];decide)];done)) sX),rfl⟩
  refine .sub [(11,_),(1,_),(2,_),(3,_),(6,_),(7,_),(8,_),(9,_),(10,_)] sX ?_;iterate 6 refine AX ?_
  refine .cx rfl (λhc48=>?_) (λhc48=>?_)
  ·iterate 3 refine AX ?_
   exact⟨rfl,(zR rfl (by unfold apK;first|(rw[aN (show ds.drop n=[53]from hc48)];done)|(rw[aM (show¬ds.drop n=[53]from hc48)];done)) sX),rfl⟩
  refine AX ?_;exact⟨rfl,(zR rfl (by unfold apK;first|(rw[aN (show ds.drop n=[53]from hc48)];done)|(rw[aM (show¬ds.drop n=[53]from hc48)];done)) sX),rfl⟩
 refine .sub [(11,_),(1,_),(2,_),(3,_),(6,_),(7,_),(8,_),(9,_),(10,_)] sX ?_;iterate 34 refine AX ?_
 refine .cond_false (tm rfl) aD ?_;iterate 6 refine AX ?_
 refine .cond_true (tm rfl) aD ?_;iterate 8 refine AX ?_
 refine .seqTo 91 (.bool (upB (ds.drop n))) [1,3,6,7,8,9] ?_ ?_
 ·iterate 3 refine AX ?_
  refine zD (t:=88) rfl (λhg88=>?_) (λhg88=>?_)
  ·have hh88:=hg88;try simp only[aL]at hh88
   iterate 4 refine AX ?_
   exact⟨rfl,zS rfl (by(rw[←hup,show decide ((0:Int)≤apK (ds.drop n))=_ from hg88];show(!decide (ds.drop n=[]))=true;rw[aS hdn];rfl)) sX,rfl⟩
  have hh88:=hg88;try simp only[aL]at hh88
  iterate 4 refine AX ?_
  exact⟨rfl,zS rfl (by(rw[←hup,show decide ((0:Int)≤apK (ds.drop n))=_ from hg88];done)) sX,rfl⟩
 refine .sub [(91,_),(1,_),(3,_),(6,_),(7,_),(8,_),(9,_)] sX ?_;refine .cx rfl (λhc91=>?_) (λhc91=>?_)
 ·iterate 9 refine AX ?_
  refine .loopW (cgL neg ds e n b6 b27 c27 ts H) (0) ⟨0,rfl,rfl,rfl,rfl⟩ (zK rfl (zK rfl (zK rfl (zK rfl (zR rfl (by congr 1;omega) yF))))) (hRa _) ?_;rintro _ _ _ ⟨j,hj,rfl,rfl,hk⟩;iterate 2 refine AX ?_
  have hj9:decide ((0:Int)≤(j:Int)-1)=false:=aS aA;iterate 12 refine AX ?_
  refine .cond_false (tm rfl) aD ?_;iterate 11 refine AX ?_
  refine .cond_true (tm rfl) (by exact aU aA) ?_;refine .frzU (t:=9) rfl hb27 aA aA hcm27 ?_;rw[show ts.take n=[] by rw[hn];rfl];refine AX ?_;refine .e rfl (yJ U252 Z5 V5 rfl (yB 49) (.inl rfl) ⟨rfl,rfl⟩) ?_;refine AX ?_;refine .e rfl (baJ (k:=.u8) (xs:=[49]) U252 U252 Z5 typeInfo5 (tm rfl) aF (tm rfl)) ?_;iterate 5 refine AX ?_
  refine .p rfl (zA U61 rfl Z4 (tm rfl)) ?_;iterate 2 refine AX ?_
  refine .e rfl (auO (l:=[49]) U252 U9 U5 (tm rfl)) ?_;refine AX ?_;refine .cl rfl C22 (evs3 rfl rfl rfl) (acQ neg _ _ (by exact Digs.one (by unfold isD;decide)) (by(simp;done)) (by constructor<;>omega) _) ?_;iterate 6 refine AX ?_
  refine .frz (t:=6) rfl hb6 ?_;iterate 2 refine AX ?_
  refine⟨?_,rfl⟩;unfold bpC;rw[aN aB,hk0];rfl
 iterate 4 refine AX ?_
 refine .p rfl (zA U61 rfl Z4 (tm rfl)) ?_;iterate 2 refine AX ?_
 refine .e rfl (baD (l:=[]) U252 U9 U5 (tm rfl) (oS _ _ _) (by(rw[hn];rfl)) (by rw[hn];rfl) aA) ?_;refine AX ?_;refine .cl rfl C22 (evs3 rfl rfl rfl) (acQ neg _ _ (λx hx=>by cases hx) (by(simp;done)) (by constructor<;>omega) _) ?_;iterate 6 refine AX ?_
 refine .dropb (asN hb27 _) ?_;refine .frz (t:=6) rfl hb6 ?_;iterate 2 refine AX ?_
 refine⟨?_,rfl⟩;unfold bpC;rw[aM (by rw[show upB (ds.drop n)=false from hc91];simp),hk0];rfl
theorem ciS{e:Int}{n:Nat}(h:0<n):bcY neg ds e n=bpC neg ds e n:=by
 unfold bcY bpC akN aeM;simp only[aN (show(0:Int)<(n:Int) by omega)];rfl
theorem ciT{e n:Int}(h:n<0):bcY neg ds e n=((neg,[],0),0):=by
 have h1:(anA 0 (asK (-n) 1)).toNat=1:=by unfold anA asK;split<;>split<;>omega
 unfold bcY akN aeM;simp only[aM (show¬(0:Int)<n by omega),h1];rfl
theorem bzI(neg:Bool)(ds:List UInt8)(e:Int)(hd:Digs ds){z:Int}(h0:0≤z)(h1:z<ds.length)(hl:ds.length≤2000)(he: -200000≤e∧e≤200000):Fn 134 [dA neg ds e,.int .i64 z,.int .i64 1] (dT (bcY neg ds e z)):=by
 intro H;obtain⟨m,rfl⟩:∃m:Nat,z=(m:Int):=⟨z.toNat,by omega⟩;by_cases q:m=0
 ·have h:=beV neg ds e m hd q aA hl he H;subst q;rw[show((0:Nat):Int)=0 from rfl,cmM];exact h
 rw[ciS aA];exact beU neg ds e m hd aA aA hl he H
theorem axT(neg:Bool)(ds:List UInt8)(e:Int)(hr:yE ds e=true)(keep:Int)(hk: -100000≤keep∧keep≤100000):Fn 57 [dA neg ds e,.int .i64 keep,.int .i64 1] (dT (adF neg ds e keep)):=by
 intro H;have hk1:(!yE ds e)=false:=by rw[hr];rfl
 have hrl:=yX hr;have hdd:=qC hr;have hpd:=qU hr;have hk2:decide (keep< -100000)=false:=aS aA;have hk3:decide ((100000:Int)<keep)=false:=aS aA;have hdl:ds.length=0↔ds=[]:=dI;refine .of_body func57 rfl ntmps57 results57 rfl ?_;iterate 3 refine AX ?_
 refine .al zr61 (λb6 hb6=>?_);iterate 6 refine AX ?_
 refine .cl rfl call132 (evs1 rfl) (aoV neg ds e (by rw[zQ];omega) _) ?_;iterate 26 refine AX ?_
 refine .cond_false (tm rfl) (by exact aS aA) ?_;iterate 5 refine AX ?_
 refine .cl rfl call73 (evs1 rfl) (aoW neg ds e (by rw[zQ];omega) _) ?_;iterate 6 refine AX ?_
 refine .seqTo 45 (.bool (decide (ds.length=0∨(ds.length:Int)≤zU ds e+keep))) [1,2,3,6,7,9] ?_ ?_
 ·refine AX ?_;refine .p rfl (zA U61 rfl Z9 (tm rfl)) ?_;iterate 4 refine AX ?_
  refine zD (t:=39) rfl (λhg39=>?_) (λhg39=>?_)
  ·have hh39:=hg39;try simp only[aL]at hh39
   iterate 7 refine AX ?_
   exact⟨rfl,zS rfl (by(refine Eq.symm ?_;first|((with_reducible refine aQ.2 ?_);(first|omega|simp[*]))|((with_reducible refine aU ?_);(first|omega|simp[*]))|((with_reducible refine aS ?_);(first|omega|simp[*])))) sX,rfl⟩
  have hh39:=hg39;try simp only[aL]at hh39
  refine AX ?_;refine .gp rfl rfl rfl aB (zA U61 rfl Z9 (tm rfl)) ?_;iterate 5 refine AX ?_
  exact⟨rfl,zS rfl (by(refine Eq.symm ?_;first|((with_reducible refine aQ.2 ?_);(first|omega|simp[*]))|((with_reducible refine aU ?_);(first|omega|simp[*]))|((with_reducible refine aS ?_);(first|omega|simp[*])))) sX,rfl⟩
 refine .sub [(45,_),(1,_),(2,_),(3,_),(6,_),(7,_),(9,_)] sX ?_;refine .cx rfl (λhc45=>?_) (λhc45=>?_)
 ·iterate 7 refine AX ?_
  refine .frz (t:=6) rfl (hb6) ?_;iterate 3 refine AX ?_
  refine⟨?_,rfl⟩;unfold adF;rw[aM (λq=>hc45.elim (λw=>q.1 (hdl.1 w)) (λw=>absurd q.2 aA))];rfl
 iterate 9 refine AX ?_
 refine .cx rfl (λhc48=>?_) (λhc48=>?_)
 ·iterate 5 refine AX ?_
  refine .cl rfl call133 (evs3 rfl rfl rfl) (beQ neg ds e keep _) ?_;iterate 6 refine AX ?_
  refine .frz (t:=6) rfl (hb6) ?_;iterate 3 refine AX ?_
  refine⟨?_,rfl⟩;unfold adF;rw[aN ⟨λw=>hc45 (.inl (hdl.2 w)),by omega⟩,ciT aA];rfl
 iterate 7 refine AX ?_
 refine .cl rfl call134 (evs3 rfl rfl rfl) (bzI neg ds e hdd aA aA aA aA _) ?_;iterate 6 refine AX ?_
 refine .frz (t:=6) rfl (hb6) ?_;iterate 2 refine AX ?_
 refine⟨?_,rfl⟩;unfold adF;rw[aN ⟨λw=>hc45 (.inl (hdl.2 w)),by omega⟩];rfl
end
def clZ(l:List ItN)(ex:Nat)(e:Int)(q:List (List UInt8)):List (List UInt8):=(q.set ex (bnB l ex e)).set ((agW l ex l.length).getD 0 0) (cjG l ex e)
theorem cgM(l:List ItN)(ex:Nat)(e:Int)(q:List Pc):(ceD l ex e q).map Pc.txt=clZ l ex e (q.map Pc.txt):=by
 unfold ceD clZ;rw[List.map_set,List.map_set];rfl
def ceG(l:List ItN)(neg:Bool)(ds:List UInt8)(e:Int)(q:List (List UInt8)):List (List UInt8):=if zZ l [5]<l.length then clZ l (zZ l [5]) (ckR l neg ds e).1 q else q
def bfX(l:List ItN)(gr:Bool)(sc:Int)(o:Loc)(neg:Bool)(ds:List UInt8)(e:Int)(q:List (List UInt8)):List (List UInt8):=
 whW l (aaS o gr) (abJ (apE l sc neg ds e) (acZ l).length).1 (aiT l) (zZ l [3,5]) (agQ l (abJ (apE l sc neg ds e) (acZ l).length).2 0 (acZ l) (ceG l neg ds e q))
theorem bqT(ds:List UInt8)(e:Int){sc:Int}(h:sc=0):acI ds e (-3*sc)=e:=by
 subst h;unfold acI;split
 ·rfl
 omega
theorem baR{mk:Nat→List UInt8}(h:∀k,mk k=[])(s:List UInt8)(last:Nat):ajQ mk s last=s:=by
 induction s with
 |nil=>rfl
 |cons x r ih=>rw[ajQ,ih,h];rfl
theorem aiG{α:Type}{q:List α}{i:Nat}{x d:α}(h:i≠k):(q.set i x).getD k d=q.getD k d:=by
 rw[aP,aP,List.getElem?_set_ne h]
theorem apC{row:List UInt8}(i:Nat)(r:List Nat)(q:List (List UInt8))(h:k∉r):(agQ l row i r q).getD k []=q.getD k []:=by
 induction r generalizing i q with
 |nil=>rfl
 |cons j r ih=>
  have hj:j≠k:=λe=>h (by rw[e];simp);rw[agQ,ih _ _ (λe=>h (gE _ e))];split
  ·exact aiG hj
  split
  ·exact aiG hj
  rfl
theorem boY(l:List ItN)(a b:Nat):(agW l a b).Nodup:=List.Pairwise.filter _ List.nodup_range
theorem bjT(o:Loc)(h:k<l.length):((l.map (aeL o)).map Pc.txt).getD k []=(aeL o l[k]).txt:=by
 rw[aP,List.map_map,cT,aX h];rfl
theorem chS(o:Loc)(h:k<l.length)(hk:abS l k=2):((l.map (aeL o)).map Pc.txt).getD k []=[]:=by
 rw[bjT o h];rw[aaF h]at hk;unfold aeL;rw[hk];rfl
theorem bcE(o:Loc)(h:k<l.length)(hk:abS l k=3):((l.map (aeL o)).map Pc.txt).getD k []=o.dc:=by
 rw[bjT o h];rw[aaF h]at hk;unfold aeL;rw[hk];rfl
theorem asA{e:Int}{q:List (List UInt8)}(hdg:zZ l [5]<l.length→agW l (zZ l [5]) l.length≠[])(h:k<zZ l [5]):(ceG l neg ds e q).getD k []=q.getD k []:=by
 unfold ceG;split
 ·rename_i hl
  have h0:=bV.2 (hdg hl);have hm:(agW l (zZ l [5]) l.length).getD 0 0∈agW l (zZ l [5]) l.length:=by
   rw[aP,aX h0];exact cF _
  have hg:=(abI.1 hm).2.1;unfold clZ;rw[aiG aA,aiG aA]
 rfl
theorem bnK{gr:Bool}{sc:Int}{o:Loc}{e:Int}(hgr:gr=true→(aiT l).length≠0)(hk3:(aiT l).length=0→zZ l [3,5]<zZ l [5]∧abS l (zZ l [3,5])=3)
  (hdt:∀k,k<l.length→abS l k=2→aaA l k=[48]∨aaA l k=[35]∨aaA l k=[63])(hdg:zZ l [5]<l.length→agW l (zZ l [5]) l.length≠[])
  (hsl:(abJ (apE l sc neg ds e) (acZ l).length).2.length=(acZ l).length):
  (bdO l gr sc o neg ds e (l.map (aeL o))).map Pc.txt=bfX l gr sc o neg ds e ((l.map (aeL o)).map Pc.txt):=by
 have hc2:=aaX l [5];unfold bdO bfX ckE whW;generalize abJ (apE l sc neg ds e) (acZ l).length=S at *;have hQ:(bjI l neg ds e (l.map (aeL o))).map Pc.txt=ceG l neg ds e ((l.map (aeL o)).map Pc.txt):=by
  unfold bjI ceG;split
  ·exact cgM _ _ _ _
  rfl
 have hb:∀k,k∈acZ l→k<zZ l [5]∧abS l k=2:=λk hk=>⟨(abI.1 hk).1,(abI.1 hk).2.2⟩;have hP:=bnE l S.2 0 (acZ l) (bjI l neg ds e (l.map (aeL o))) aA (boY _ _ _)
  (λk hk=>by rw[hQ,asA hdg (hb k hk).1];exact chS o (by have:=(hb k hk).1;omega) (hb k hk).2)
  (λk hk=>hdt k (by have:=(hb k hk).1;omega) (hb k hk).2) (abL l 0 (acZ l) (aeS S.2)) (λj _=>by rw[amW];omega)
 rw[hQ]at hP;rw[bqH];by_cases h:(aiT l).length=0
 ·obtain⟨h1,h2⟩:=hk3 h;have hg:gr=false:=by
   cases gr with
   |false=>rfl
   |true=>exact absurd h (hgr rfl)
  rw[aN h,aN h,cW h,aiM,List.map_set,hP];refine congrArg (List.set _ _) ?_;rw[baR (λk=>bbX (.inl hg)),apC 0 (acZ l) _ (λq=>by have:=(hb _ q).2;rw[h2]at this;cases this),asA hdg h1,bcE o aA h2];rfl
 rw[aM h,aM h,hP]
section
open Go Go.RowKit
set_option maxRecDepth 100000
def blV(p:List SecN)(x:Nat):SecN:=if 2≤p.length∧x/9223372036854775808=1∧yK x≠0 then atV p 1 else if 3≤p.length∧yK x=0 then atV p 2 else atV p 0
def SecN.avS(s:SecN):AV:=.agg (s.cs .shared)
theorem axH(p:List SecN)(tp:Tail)(hp:1≤p.length∧p.length≤4)(x:Nat)(hx:x<18446744073709551616):Fn 33 [.agg [bdM p tp],.int .u64 (x:Int)] ((blV p x).avS):=by
 intro H;refine .of_body func33 rfl ntmps33 results33 rfl ?_;iterate 3 refine AX ?_
 refine .s rfl (adK V52 (zr52)) ?_;rintro _ _ ⟨b4,hb4,rfl,hH⟩;obtain rfl:=hH.symm;iterate 5 refine AX ?_
 refine .cl rfl C31 (evs1 rfl) (acY _ aB _) ?_;iterate 7 refine AX ?_
 refine .p rfl (zA U24 rfl Z22 (tm rfl)) ?_;iterate 6 refine AX ?_
 refine .seqTo 13 (.bool (decide (2≤p.length∧x/9223372036854775808=1∧yK x≠0))) [2,4,5,6] ?_ ?_
 ·iterate 4 refine AX ?_
  refine zD (t:=16) rfl (λhg16=>?_) (λhg16=>?_)
  ·have hh16:=hg16;try simp only[aL]at hh16
   iterate 5 refine AM ?_
   refine zD (t:=21) rfl (λhg21=>?_) (λhg21=>?_)
   ·have hh21:=hg21;try simp only[aL]at hh21
    iterate 5 refine AX ?_
    exact⟨rfl,zS rfl (by(refine Eq.symm ?_;first|(rw[←decide_not];exact aQ.2 aA)|exact aQ.2 aA|exact aU aA|exact aS aA)) sX,rfl⟩
   have hh21:=hg21;try simp only[aL]at hh21
   iterate 5 refine AX ?_
   exact⟨rfl,zS rfl (by(refine Eq.symm ?_;first|(rw[←decide_not];exact aQ.2 aA)|exact aQ.2 aA|exact aU aA|exact aS aA)) sX,rfl⟩
  have hh16:=hg16;try simp only[aL]at hh16
  iterate 10 refine AX ?_
  exact⟨rfl,zS rfl (by(refine Eq.symm ?_;first|(rw[←decide_not];exact aQ.2 aA)|exact aQ.2 aA|exact aU aA|exact aS aA)) sX,rfl⟩
 refine .sub [(13,_),(2,_),(4,_),(5,_),(6,_)] sX ?_;refine .cx rfl (λhc13=>?_) (λhc13=>?_)
 ·iterate 2 refine AX ?_
  refine .p rfl (zA U24 rfl Z22 (tm rfl)) ?_;iterate 6 refine AX ?_
  refine .frz (t:=4) rfl (hb4) ?_;iterate 4 refine AX ?_
  refine⟨?_,rfl⟩;unfold blV;rw[aN hc13,akT (show 1<p.length by omega)];rfl
 refine .seqTo 29 (.bool (decide (3≤p.length∧yK x=0))) [2,4] ?_ ?_
 ·iterate 4 refine AX ?_
  refine zD (t:=32) rfl (λhg32=>?_) (λhg32=>?_)
  ·have hh32:=hg32;try simp only[aL]at hh32
   iterate 4 refine AX ?_
   exact⟨rfl,zS rfl (by(refine Eq.symm ?_;first|(rw[←decide_not];exact aQ.2 aA)|exact aQ.2 aA|exact aU aA|exact aS aA)) sX,rfl⟩
  have hh32:=hg32;try simp only[aL]at hh32
  iterate 4 refine AX ?_
  exact⟨rfl,zS rfl (by(refine Eq.symm ?_;first|(rw[←decide_not];exact aQ.2 aA)|exact aQ.2 aA|exact aU aA|exact aS aA)) sX,rfl⟩
 refine .sub [(29,_),(2,_),(4,_)] sX ?_;refine .cx rfl (λhc29=>?_) (λhc29=>?_)
 ·iterate 2 refine AX ?_
  refine .p rfl (zA U24 rfl Z22 (tm rfl)) ?_;iterate 6 refine AX ?_
  refine .frz (t:=4) rfl (hb4) ?_;iterate 4 refine AX ?_
  refine⟨?_,rfl⟩;unfold blV;rw[aM hc13,aN hc29,akT (show 2<p.length by omega)];rfl
 iterate 5 refine AX ?_
 refine .p rfl (zA U24 rfl Z22 (tm rfl)) ?_;iterate 6 refine AX ?_
 refine .frz (t:=4) rfl (hb4) ?_;iterate 2 refine AX ?_
 refine⟨?_,rfl⟩;unfold blV;rw[aM hc13,aM hc29,akT (show 0<p.length by omega)];rfl
end
theorem ciF(h:qM l 6=0):cmJ l=zZ l [3,5]:=by
 rw[←asW];unfold zZ qM at *;rw[List.countP_eq_zero]at h;induction l with
 |nil=>rfl
 |cons x l ih=>
  rw[List.findIdx_cons,List.findIdx_cons,ih (λy hy=>h y (gE _ hy))];have h6:=h x aF;simp only[aT]at h6;have e:decide (x.kind∈([3,5,6]:List Int))=decide (x.kind∈([3,5]:List Int)):=aQ.2 aG;rw[e]
theorem ciN(l:List ItN)(b:Nat)(hb:b≤l.length):(agW l 0 b).length=qM (l.take b) 2:=by
 induction b with
 |zero=>rfl
 |succ b ih=>
  rw[bkO l (Nat.zero_le _),aO,ih aA];unfold qM;rw[←cI (show b<l.length by omega),List.countP_append,aaF (show b<l.length by omega)];by_cases q:(l[b]'aA).kind=2<;>simp[q]
theorem alZ{s:SecN}(h:yH s=2∨yH s=3):s.items.all ajZ=true∧qM s.items 6=0∧0≤s.scale∧s.scale≤9∧(s.grouped=true→acS (ahQ s.items)=true)∧(s.items.drop (zZ s.items [5])≠[]→s.scale=0∧0<qM (s.items.take (zZ s.items [5])) 2∧1≤qM (s.items.drop (zZ s.items [5])) 2)∧0<qM s.items 2:=by
 obtain⟨l,gr,sc⟩:=s;unfold yH at h;simp only at h ⊢;by_cases h1:l.all ajZ=false
 ·rw[aN h1]at h;omega
 rw[aM h1]at h;have hsh:shp l=2∨shp l=3:=by
  split at h
  ·rename_i q;exact .inl q
  split at h
  ·exact h
  omega
 have hx:qM l 6=0∧0<qM l 2∧(shp l=2→(l.drop (zZ l [5])).length=0)∧(shp l=3→0<qM (l.take (zZ l [5])) 2∧1≤qM (l.drop (zZ l [5])) 2):=by
  unfold shp at hsh ⊢
  repeat' split at hsh
  all_goals first|omega|skip
  all_goals (simp only[*,if_true,if_false];try omega)
 obtain⟨x1,x2,x3,x4⟩:=hx;rcases hsh with q|q
 ·rw[aN q]at h;split at h
  ·rename_i g
   refine⟨by simpa using h1,x1,g.1,g.2.1,λw=>g.2.2.2.resolve_left (by rw[w];simp),λw=>absurd (cW (x3 q)) w,x2⟩
  omega
 rw[aJ]at h;split at h
 ·rename_i g
  refine⟨by simpa using h1,x1,by omega,by omega,λw=>(by rw[g.1]at w;cases w),λ_=>⟨g.2,(x4 q).1,(x4 q).2⟩,x2⟩
 omega
theorem bpM(h:acS l=true):0<qM l 2:=by
 induction l with
 |nil=>cases h
 |cons x r ih=>
  cases r with
  |nil=>cases h
  |cons y r=>
   unfold acS at h;rw[dB]at h;rcases h with h|h
   ·have hx:=(of_decide_eq_true h).1;unfold qM;rw[List.countP_cons,aN (aU hx)];omega
   have:=ih h;unfold qM at *;rw[List.countP_cons];omega
theorem clB(h:l.all ajZ=true)(hk:k<l.length)(h2:abS l k=2):aaA l k=[48]∨aaA l k=[35]∨aaA l k=[63]:=by
 have h1:=eD.1 h _ (cF hk);rw[aaF hk]at h2;rw[←abP hk];unfold ajZ at h1;rw[aM (by rw[h2];decide),aN h2]at h1;exact of_decide_eq_true h1
theorem ccA{a:Nat}(h:1≤qM (l.drop a) 2):agW l a l.length≠[]:=by
 intro q;unfold qM at h;obtain⟨x,hx,hk⟩:=List.countP_pos_iff.1 (show 0<_ from h);obtain⟨i,hi,rfl⟩:=eX hx;rw[bO]at hi;have hm:a+i∈agW l a l.length:=abI.2 ⟨by omega,by omega,by rw[aaF (show a+i<l.length by omega)];rw[List.getElem_drop]at hk;exact of_decide_eq_true hk⟩;rw[q]at hm;cases hm
theorem clM(h:zZ l [3,5]<zZ l [5]):abS l (zZ l [3,5])=3:=by
 have hl:=aaX l [5];have hk:zZ l [3,5]<l.length:=by omega
 have h1:decide ((l[zZ l [3,5]]).kind∈([3,5]:List Int))=true:=List.findIdx_getElem (p:=λx:ItN=>decide (x.kind∈([3,5]:List Int))) (w:=hk);have h2:¬decide ((l[zZ l [3,5]]).kind∈([5]:List Int))=true:=by
  have:=List.not_of_lt_findIdx (p:=λx:ItN=>decide (x.kind∈([5]:List Int))) h;simpa using this
 rw[aaF hk];simp at h1 h2;omega
theorem bbT{s:SecN}(h:yH s=2∨yH s=3):(s.grouped=true→(aiT s.items).length≠0)∧((aiT s.items).length=0→zZ s.items [3,5]<zZ s.items [5]∧abS s.items (zZ s.items [3,5])=3)∧(zZ s.items [5]<s.items.length→agW s.items (zZ s.items [5]) s.items.length≠[]∧s.scale=0):=by
 obtain⟨h1,h2,h3,h4,h5,h6,h7⟩:=alZ h;have hc:=aaX s.items [3,5];have hc5:=aaX s.items [5];have hm:=awP s.items (ks:=[5]) (js:=[3,5]) (λk hk=>gE _ hk);have he:(aiT s.items).length=qM (s.items.take (zZ s.items [3,5])) 2:=ciN _ _ hc;refine⟨λg=>?_,λq=>?_,λq=>?_⟩
 ·have hb:=bpM (h5 g);unfold ahQ at hb;rw[asW,ciF h2,←he]at hb;omega
 ·have hlt:zZ s.items [3,5]<zZ s.items [5]:=by
   rcases bX (zZ s.items [3,5]) (zZ s.items [5])with z|z
   ·exact z
   have e:zZ s.items [3,5]=zZ s.items [5]:=by omega
   rw[q]at he;rw[e]at he;by_cases hd:s.items.drop (zZ s.items [5])=[]
   ·rw[aY (List.drop_eq_nil_iff.1 hd)]at he;omega
   have:=(h6 hd).2.1;omega
  exact⟨hlt,clM hlt⟩
 have hd:s.items.drop (zZ s.items [5])≠[]:=by intro z;have:=List.drop_eq_nil_iff.1 z;omega
 exact⟨ccA (h6 hd).2.2,(h6 hd).1⟩
end Go.Proofs.YteedncdcbgplfaaGreatDoor
