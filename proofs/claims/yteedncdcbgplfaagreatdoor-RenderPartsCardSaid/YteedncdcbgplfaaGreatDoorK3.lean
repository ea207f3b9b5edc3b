import Derived.Test.YteedncdcbgplfaaGreatDoorK2
set_option maxHeartbeats 1000000
namespace Go.Proofs.YteedncdcbgplfaaGreatDoor
open Go.Proofs.Tryz
open Go Go.RowKit
variable{x:Nat}{l:List ItN}{o:Loc}
section
set_option maxRecDepth 100000
def allD:List UInt8:=[48,49,50,51,52,53,54,55,56,57]
theorem brW{b:UInt8}(h:isD b):allD.contains b=true:=by
 have h1:b=UInt8.ofNat b.toNat:=by simp
 obtain⟨h2,h3⟩:=h;rw[h1];have:∀k,48≤k→k≤57→allD.contains (UInt8.ofNat k)=true:=by
  intro k a b;have:k=48∨k=49∨k=50∨k=51∨k=52∨k=53∨k=54∨k=55∨k=56∨k=57:=by omega
  rcases this with rfl|rfl|rfl|rfl|rfl|rfl|rfl|rfl|rfl|rfl<;>rfl
 exact this _ h2 h3
theorem avH{α:Type}{l:List α}{q:α→Bool}(h:∀x,x∈l→q x=true):l.dropWhile q=[]:=by
 induction l with
 |nil=>rfl
 |cons x l ih=>rw[eL,aN (h x aF)];exact ih λy hy=>h y (by simp[hy])
theorem bjD{s:List UInt8}(h:Digs s):Lib.trimS s allD=[]:=by
 have h1:s.reverse.dropWhile (allD.contains ·)=[]:=avH λx hx=>brW (h x (by simpa using hx));show((s.reverse.dropWhile (allD.contains ·)).reverse.dropWhile (allD.contains ·))=[];rw[h1];rfl
theorem axV:∀s:List UInt8,num (s.dropWhile (·==48))=num s
 | []=>rfl
 |c::r=>by
  rw[eL];split
  ·rename_i h
   have h1:c=48:=by simpa using h
   rw[axV r,anX,h1];simp
  rfl
theorem bmB{l:List UInt8}(h:Digs l)(hl:l.length≤2400):num l<BIG:=by
 have h1:=asO h;obtain⟨a,ha,h3⟩:∃a:Nat,a=2400∧10^a<BIG:=⟨2400,rfl,by unfold BIG;decide+kernel⟩;have h2:10^l.length≤10^a:=bS aC aA;exact dF h1 (bH h2 (eS h3))
theorem bbC{s p t:List UInt8}{n:Nat}(h:Digs s)(hl:s.length≤2000)(e:s=p++t)(hn:n=min 9 t.length)(ht:0<t.length):t.take n≠[]∧Digs (t.take n)∧(t.take n).length≤18∧10^n<BIG∧num p<BIG∧num p*10^n<BIG∧num p*10^n+num (t.take n)<BIG∧num (p++t.take n)=num p*10^n+num (t.take n)∧s=(p++t.take n)++t.drop n∧num (t.take n)<1000000000∧n≤t.length∧n≤9∧0<n:=by
 have hlen:(t.take n).length=n:=by rw[aU];omega
 have hp:Digs p:=λb hb=>h b (by rw[e];simp[hb]);have htd:Digs t:=λb hb=>h b (by rw[e];simp[hb]);have hps:p.length+t.length≤2000:=by rw[e,aR]at hl;exact hl
 have hq:num (p++t.take n)=num p*10^n+num (t.take n):=by rw[alY,hlen]
 have hd2:Digs (p++t.take n):=λb hb=>by
  rcases eA.1 hb with h1|h1
  ·exact hp b h1
  exact htd.take n b h1
 have hB:=bmB hd2 (by rw[aR,hlen];omega);rw[hq]at hB;have hpB:10^n<BIG:=by
  have h2:10^n≤10^9:=bS aC aA;exact bI h2 (by unfold BIG;decide+kernel)
 have hn9:=asO (htd.take n);rw[hlen]at hn9;have h9:10^n≤10^9:=bS aC aA;refine⟨λh0=>?_,htd.take n,by omega,hpB,bmB hp aA,by omega,hB,hq,by rw[bF,cO];exact e,by omega,by omega,by omega,by omega⟩;rw[h0]at hlen;simp at hlen;omega
def blP(s0:List UInt8)(H:Heap):Nat→Env→Heap→Prop:=λk env H1=>∃p t:List UInt8,s0=p++t∧env=[(0,.str t),(4,qE (num p)),(5,.int .i64 0)]∧H=H1∧k=t.length
theorem bbZ(s:List UInt8)(hne:s≠[])(hd:Digs s)(hl:s.length≤2000):Fn 105 [.str s] (.tuple [qE (num s),.int .i64 0]):=by
 intro H;have hd0:=hd.dropWhile (·==48);have hl0:(s.dropWhile (·==48)).length≤2000:=bH (dS _).length_le hl;have hnz:=axV s;refine .of_body func105 rfl ntmps105 results105 rfl ?_;iterate 3 refine AM ?_
 iterate 4 refine AX ?_
 refine .seqTo 17 (.bool (false)) [0,2,3] ?_ ?_
 ·iterate 4 refine AX ?_
  refine zC (t:=13) rfl (λhg13=>?_) (λhg13=>?_)
  ·iterate 5 refine AX ?_
   exact⟨rfl,zO rfl (by(simp at hg13;exact absurd hg13 hne)) sX,rfl⟩
  refine AX ?_;refine .gs rfl rfl rfl aB (zD call192 (.cons (tm rfl) (.cons (zS rfl) .nil)) (trimSetA _ aC aC _ _)) ?_;rintro _ _ ⟨rfl,hH⟩;obtain rfl:=hH.symm;iterate 3 refine AX ?_
  exact⟨rfl,zO rfl (by(rw[show Lib.trimS s [48,49,50,51,52,53,54,55,56,57]=[]from bjD hd];rfl)) sX,rfl⟩
 refine .sub [(17,_),(0,_),(2,_),(3,_)] sX ?_;refine .cond_false (tm rfl) aD ?_;iterate 5 refine AX ?_
 refine .cl rfl call108 (.cons (tm rfl) (.cons (zS rfl) .nil)) (trimLeftA 48 aC _ _) ?_;iterate 5 refine AX ?_
 generalize s.dropWhile (·==48)=s0 at *;iterate 6 refine AX ?_
 refine .cx rfl (λhc22=>?_) (λhc22=>?_)
 ·omega
 iterate 9 refine AM ?_
 iterate 5 refine AX ?_
 refine .loopW (blP s0 H) (s0.length) ⟨[],s0,rfl,rfl,rfl,rfl⟩ sX (hRa _) ?_;rintro _ _ _ ⟨p,t,he,rfl,rfl,hk⟩;iterate 8 refine AX ?_
 refine .cx rfl (λhc25=>?_) (λhc25=>?_)
 ·iterate 3 refine AX ?_
  refine .seqToL [(6,.int .i64 ((min 9 t.length:Nat):Int))] [0,4,5] ?_ ?_
  ·iterate 6 refine AX ?_
   exact⟨rfl,(zU rfl (by congr 1;simp only[asW];first|omega|(split<;>omega)) sX),rfl⟩
  refine .sub [(6,_),(0,_),(4,_),(5,_)] sX ?_;generalize hn:min 9 t.length=n;obtain⟨hq1,hq2,hq3,hpB,hB1,hB2,hB3,hnum,hsplit,hn9,hnt,hn99,hn0⟩:=bbC hd0 hl0 he hn.symm aA;iterate 5 refine AX ?_
  refine .cl rfl call102 (evs1 rfl) (atoiA (t.take n) hq1 hq2 hq3 _) ?_;iterate 10 refine AX ?_
  refine .cl rfl call170 (.cons zJ (evs1 rfl)) (ayY 10 n aC aC aA hpB _) ?_;iterate 12 refine AX ?_
  refine .cl rfl C106 (evs2 rfl rfl) (mulB _ _ hB1 hpB hB2 _) ?_;iterate 13 refine AX ?_
  refine .cond_true (tm rfl) aD ?_;iterate 4 refine AX ?_
  refine .cl rfl C93 (evs1 rfl) (aeG _ aA _) (.cl rfl call107 (evs2 rfl rfl) (addB _ _ hB3 _) ?_);iterate 14 refine AX ?_
  refine .cond_false (tm rfl) aD ?_;iterate 10 refine AX ?_
  have hdl:(t.drop n).length=t.length-n:=bC;refine Round.mk ⟨p++t.take n,t.drop n,hsplit,rfl,rfl,rfl⟩ (zF rfl (zU rfl (by rw[hnum]) (zF rfl zW))) (hRa _) aA
 iterate 14 refine AX ?_
 refine⟨?_,rfl⟩;have ht:t=[]:=cG.1 aA;rw[ht,bJ]at he;rw[←hnz,he];rfl
end
section
open Go Go.RowKit
set_option maxRecDepth 100000
theorem aoD{a:List Nat}{i:Nat}(h:i<a.length):a.getD i 0∈a:=by
 rw[aS,aV h];exact bM _
theorem auZ{a:List Nat}{q:Int}{j k:Nat}(hq:q.toNat=j)(h:j<a.length)(hk:a.getD j 0=k):(a.map biR)[q.toNat]?=some (biR k):=by rw[hq,←hk];exact asP h
def byR(l:List ItN)(gr:Bool)(sc:Int)(o:Loc)(b n:Nat)(x:Nat)(H:Heap):Nat→Env→Heap→Prop:=λk env H1=>∃i:Nat,i≤yW l∧aeF l i=aeF l (yW l)∧env=[(0,.iptr (shC l gr sc o b n)),(1,.int .u64 (x:Int)),(5,.int .i64 (yW l:Int)),(6,.int .i64 (i:Int))]∧H=H1∧k=i
def bzQ(l:List ItN)(gr:Bool)(sc:Int)(o:Loc)(b n:Nat)(W:List UInt8)(be:List Nat)(a e:Nat)(q:List Pc)(H:Heap):Nat→Env→Heap→Prop:=λk env H1=>∃j:Nat,a≤j∧j≤e+1∧env=[(0,.iptr (shC l gr sc o b n)),(9,abB be .shared),(14,.str W),(19,.int .i64 (j:Int))]∧H1=H.set b (pcR (alI a j q))∧k=e+1-j
def bnC(l:List ItN)(gr:Bool)(sc:Int)(o:Loc)(b n:Nat)(r:(Bool×List UInt8×Int)×Nat×Nat)(pcs:List Pc)(H:Heap):Env→Heap→Prop:=λenv H2=>∃nm q3,q3.length=n∧nm.length≤2500∧anL l gr o r pcs=abW l (qV o gr) nm true false (auV l) q3∧ayF l r=(decide (nm≠[])||decide (afY r.1≠[]))∧env=[(0,.iptr (shC l gr sc o b n)),(8,abB (auV l) .shared),(14,.str (afY r.1)),(16,.str nm)]∧H2=H.set b (pcR q3)
theorem arC(l:List ItN)(gr:Bool)(sc:Int)(o:Loc)(b n:Nat)(pcs:List Pc)(ho:o.ok)(hs2:o.second=2∨o.second=3)(hl:l.length≤10000)(hnl:n=l.length)(hpn:pcs.length=n)(x:Nat)(hx:x<18446744073709551616)(hkx:yZ x<3)(hsl:yW l≤l.length)(hd1:1≤(abH l).length)(hd4:(abH l).length≤4)(H:Heap)(hb:H.objs b=some (pcR pcs)):ACall prog 40 [.iptr (shC l gr sc o b n),.int .u64 (x:Int)] H (λy H'=>y= .bool (ayF l (afB x (adE l)))∧H'=H.set b (pcR (anL l gr o (afB x (adE l)) pcs))):=by
 have hfl:=avG l (yW l);have hmo:1≤adE l∧adE l≤9999:=by
  unfold adE;rcases(by omega:(abH l).length=1∨(abH l).length=2∨(abH l).length=3∨(abH l).length=4)with q|q|q|q<;>rw[q]<;>decide
 obtain⟨hr1,hr2,hr3,hr4,hr5⟩:=asE x hmo;obtain⟨hr6,hr7⟩:=auJ x hmo;obtain⟨ht1,ht2,ht3,ht4⟩:=azO x hmo;have hrp:=qQ hr1;have hrl:=yO hr1;have hdk:(abH l).getD 0 0<l.length:=afO (λk hk=>(qM.1 hk).1) hd1;obtain⟨kk,hkk⟩:∃kk,(abH l).getD 0 0=kk:=⟨_,rfl⟩;rw[hkk]at hdk;have hde:(abH l).getD ((abH l).length-1) 0<l.length:=afO (λk hk=>(qM.1 hk).1) aA;obtain⟨ee,hee⟩:∃ee,(abH l).getD ((abH l).length-1) 0=ee:=⟨_,rfl⟩;rw[hee]at hde;have hal:(afP l).length≤l.length:=bH (abA _ _ _) aA;have hnl2:(auV l).length≤l.length:=bH (abA _ _ _) aA;have hBm:18014398509481984<BIG:=by unfold BIG;decide+kernel
 refine ACall.of_body func40 rfl ntmps40 results40 rfl ?_;iterate 8 refine AX ?_
 refine .e rfl (yP U30 Z3 V3 rfl zJ (.inl rfl) ⟨rfl,rfl⟩) (.cl rfl C94 (evs2 rfl rfl) (afJ l gr sc o b n aA [6] _ aC _) ?_);iterate 11 refine AX ?_
 refine AWP.loopW (byR l gr sc o b n x H) (yW l) ⟨yW l,bB _,rfl,rfl,rfl,rfl⟩ sX (hRa _) ?_;rintro _ _ _ ⟨i,hi,hfr,rfl,rfl,hk⟩;refine AX ?_;refine AWP.seqTo 38 (.bool (decide (0<i∧aaU l (i-1)=2))) [0,1,5,6] ?_ ?_
 ·iterate 4 refine AX ?_
  refine zC (t:=26) rfl (λhg26=>?_) (λhg26=>?_)
  ·have hh26:=hg26;try simp only[aL]at hh26
   iterate 2 refine AX ?_
   refine .gp rfl rfl rfl aB (zA U89 rfl Z52 (tm rfl)) (.gp rfl rfl rfl aB (zA U52 rfl Z50 (tm rfl)) ?_);iterate 2 refine AX ?_
   refine .gp rfl rfl rfl aB (.say (b:=.int .i64 ((i-1:Nat):Int)) (by congr 1;omega) (qY (tm rfl) zJ aA)) ?_;refine AX ?_;refine .gp rfl rfl rfl aB (zA U57 rfl Z3 (tm rfl)) ?_;iterate 4 refine AX ?_
   exact⟨rfl,zO rfl (by(refine Eq.symm ?_;first|exact aO.2 ⟨λq=>(qB (i:=i-1) aA).symm.trans q.2,λq=>⟨by omega,(qB (i:=i-1) aA).trans q⟩⟩|exact aP aA)) sX,rfl⟩
  have hh26:=hg26;try simp only[aL]at hh26
  iterate 13 refine AX ?_
  exact⟨rfl,zO rfl (by(refine Eq.symm ?_;first|exact aO.2 ⟨λq=>(qB (i:=i-1) aA).symm.trans q.2,λq=>⟨by omega,(qB (i:=i-1) aA).trans q⟩⟩|exact aP aA)) sX,rfl⟩
 refine AWP.sub [(38,_),(0,_),(1,_),(5,_),(6,_)] sX ?_;refine AWP.cond (tm rfl) (λhc38=>?_) (λhc38=>?_)
 ·try simp only[aL]at hc38
  have hfn:=aqF hc38;iterate 5 refine AX ?_
  refine .p rfl (.say (b:=.int .i64 ((i-1:Nat):Int)) (by congr 1;omega) (qY (tm rfl) zJ aA)) ?_;iterate 4 refine AX ?_
  refine Round.mk (J:=byR l gr sc o b n x H) ⟨i-1,by omega,hfn.trans hfr,rfl,rfl,rfl⟩ sX (hRa _) aA
 try simp only[aL]at hc38
 have hfe:=beH hc38;rw[hfr]at hfe;obtain rfl:=hfe;iterate 6 refine AX ?_
 refine AWP.draw [(0,true),(1,true),(2,true),(3,true),(4,true),(5,true),(6,true),(7,true),(8,true),(9,true),(10,true),(11,true),(12,true),(13,true),(14,true),(15,true),(16,true),(17,true),(18,true)] rfl aE ?_;iterate 2 refine AX ?_
 refine APlan.f rfl rfl (λ_=>zD C95 (.cons (tm rfl) (.cons zJ (evs1 rfl))) (acZ l gr sc o b n aA 0 (aeF l (yW l)) (Nat.zero_le _) aA _)) ?_;iterate 3 refine AX ?_
 refine APlan.f rfl rfl (λ_=>zD C95 (evs3 rfl rfl rfl) (acZ l gr sc o b n aA (aeF l (yW l)) (yW l) aA hsl _)) ?_;iterate 4 refine AX ?_
 refine .p rfl rfl (zA U89 rfl Z52 (tm rfl)) (.p rfl rfl (zA U52 rfl Z50 (tm rfl)) ?_);iterate 2 refine AX ?_
 refine APlan.f rfl rfl (λ_=>zD C95 (evs3 rfl rfl rfl) (acZ l gr sc o b n aA (yW l) l.length hsl (bB _) _)) ?_;iterate 6 refine AX ?_
 rw[show acN l 0 (aeF l (yW l))=afP l from rfl,show acN l (aeF l (yW l)) (yW l)=auV l from rfl,show acN l (yW l) l.length=abH l from rfl];iterate 3 refine AX ?_
 refine .cl rfl C103 (.cons (zS rfl) (evs1 rfl)) (repeatZ 57 _ (abH l).length (by simp[abH]) aA _) (.cl rfl call102 (evs1 rfl) (atoiA (List.replicate (abH l).length 57) (by intro q;rw[List.replicate_eq_nil_iff]at q;omega) (bmE _) (by rw[bA];omega) _) ?_);rw[show num (List.replicate (abH l).length 57)=adE l from blZ _];iterate 11 refine AX ?_
 refine .cl rfl call104 (evs2 rfl rfl) (bbX x (adE l) hx hkx hmo _) ?_;generalize afB x (adE l)=r at *;iterate 3 refine AX ?_
 refine .al zr174 (λb12 hb12=>?_);refine .e0 (zM Z174 (tm rfl) (tm rfl) rfl rfl (.inr ⟨_,rfl⟩) (oS _ _ _) (lB rfl)) ?_;try first|rw[sS]|rw[sU aB]
 iterate 3 refine AX ?_
 refine AWP.frz (t:=12) rfl (hb12) ?_;iterate 2 refine AX ?_
 refine .p rfl (zA U174 rfl Z61 (tm rfl)) ?_;refine AX ?_;refine .cl rfl call99 (.cons (tm rfl) (.cons zJ .nil)) (amP r.1.1 r.1.2.1 r.1.2.2 (qK hr1) aA aA 0 aA _) ?_;rw[show(adW r.1.2.1 (yF r.1.2.1 r.1.2.2) 0).1=afY r.1 from rfl];iterate 8 refine AX ?_
 refine AWP.draw [(0,true),(1,true),(2,true),(3,true),(4,true),(5,true),(6,true),(7,true),(8,true),(9,true),(10,true),(11,true),(12,true),(13,false)] rfl aE ?_;iterate 2 refine AX ?_
 refine .p rfl rfl (zA U89 rfl Z87 (tm rfl)) ?_;iterate 2 refine AX ?_
 refine .p rfl rfl (qA U30 Z3 (tm rfl) zJ aA (avA hd1 hkk)) ?_;refine AX ?_;refine .p rfl rfl (zA U174 rfl Z3 (tm rfl)) (.p rfl rfl (zX G3 (tm rfl)) ?_);refine APlan.f rfl rfl (λ_=>zD C90 (evs1 rfl) (itoaA r.2.2 aA _)) ?_;refine .p rfl rfl (qD [(0,1)] U145 V145 (zr145) rfl (pl145 _ U145) (.cons (tm rfl) (.inl rfl) .nil) rfl) (.p rfl rfl (aaW U145 rfl (tm rfl)) (.p rfl rfl (yH U87 Z147 (tm rfl) (tm rfl) aA aA) (.s0 rfl (yQ Pc.av (.fx (dec r.2.2)) kk Z147 (tm rfl) (tm rfl) rfl rfl hb aA aA) ?_)));rintro _ _ ⟨rfl,hH⟩;obtain rfl:=hH.symm;iterate 4 refine AX ?_
 refine .p rfl (zA U174 rfl Z3 (tm rfl)) ?_;refine AX ?_;refine .cl rfl C90 (evs1 rfl) (itoaA r.2.1 aA _) ?_;iterate 3 refine AX ?_
 refine AWP.meet (bnC l gr sc o b n r pcs H) ?_ ?_
 ·iterate 7 refine AX ?_
  refine AWP.cond (tm rfl) (λhc94=>?_) (λhc94=>?_)
  ·try simp only[aL]at hc94
   iterate 3 refine AX ?_
   refine .p rfl (zQ (zS rfl) (tm rfl) (by simp only[zN,aX,aY]at *;omega)) (.cl rfl call105 (evs1 rfl) (bbZ (48::afY r.1) aF hr6 aG _) ?_);iterate 10 refine AX ?_
   refine .p rfl (zA U174 rfl Z3 (tm rfl)) ?_;iterate 2 refine AX ?_
   refine .cl rfl C93 (evs1 rfl) (aeG r.2.2 aA _) (.cl rfl C106 (evs2 rfl rfl) (mulB (num (48::afY r.1)) r.2.2 ht1 aA ht2 _) ?_);iterate 9 refine AX ?_
   refine .p rfl (zA U174 rfl Z3 (tm rfl)) ?_;iterate 2 refine AX ?_
   refine .cl rfl C93 (evs1 rfl) (aeG r.2.1 aA _) (.cl rfl call107 (evs2 rfl rfl) (addB (num (48::afY r.1)*r.2.2) r.2.1 ht3 _) ?_);iterate 8 refine AX ?_
   refine .cl rfl call109 (evs1 rfl) (anE (avW r) ht3 _) (.cl rfl call108 (.cons (tm rfl) (.cons (zS rfl) .nil)) (trimLeftA 48 aC _ _) ?_);rw[brK];iterate 3 refine AX ?_
   refine Meets.mk (M:=bnC l gr sc o b n r pcs H) ⟨bhH (avW r),(pcs.set kk (.fx (dec r.2.2))),by rw[bR];exact hpn,ht4,by unfold anL;rw[aK,hkk],by unfold ayF;rw[aK],rfl,rfl⟩ sX (hRa _)
  try simp only[aL]at hc94
  iterate 5 refine AX ?_
  refine .s rfl (zD call101 (evs3 rfl rfl rfl) (ahG l gr sc o b n (afY r.1) (afP l) (pcs.set kk (.fx (dec r.2.2))) ho hs2 aA hnl (by simp only[bR];exact hpn) (λk hk=>by have:=(qM.1 hk).1;omega) aA aA _ (oS _ _ _))) ?_;rintro _ _ hH;obtain rfl:=hH;rw[sS];iterate 4 refine AX ?_
  refine .p rfl (zA U174 rfl Z3 (tm rfl)) ?_;iterate 4 refine AX ?_
  refine AWP.cond (tm rfl) (λhc128=>?_) (λhc128=>?_)
  ·try simp only[aL]at hc128
   iterate 2 refine AX ?_
   have hak:(afP l).getD ((afP l).length-1) 0<l.length:=afO (λk hk=>by have:=(qM.1 hk).1;omega) aA;obtain⟨aa,haa⟩:∃aa,(afP l).getD ((afP l).length-1) 0=aa:=⟨_,rfl⟩;have hae:aa<ee:=by
    have h1:=qM.1 (show(afP l).getD ((afP l).length-1) 0∈acN l 0 (aeF l (yW l))from aoD (a:=afP l) aA);have h2:=qM.1 (show(abH l).getD ((abH l).length-1) 0∈acN l (yW l) l.length from aoD (a:=abH l) aA);rw[haa]at h1;rw[hee]at h2;omega
   rw[haa]at hak;iterate 5 refine AX ?_
   refine .p rfl (qA U30 Z3 (tm rfl) (tm rfl) aA (auZ (j:=(afP l).length-1) aA aA haa)) ?_;iterate 6 refine AX ?_
   refine AWP.loopW (bzQ l gr sc o b n (afY r.1) (abH l) (aa+1) ee (abW l (qV o gr) (afY r.1) true false (afP l) (pcs.set kk (.fx (dec r.2.2)))) H) (ee+1-(aa+1)) ⟨aa+1,bB _,by omega,rfl,by rw[buM],rfl⟩ sX (hRa _) ?_;rintro _ _ _ ⟨j,hj1,hj2,rfl,rfl,hk⟩;iterate 8 refine AX ?_
   refine .p rfl (qA U30 Z3 (tm rfl) (tm rfl) aA (auZ (j:=(abH l).length-1) aA aA hee)) ?_;iterate 4 refine AX ?_
   refine AWP.cond (tm rfl) (λhc143=>?_) (λhc143=>?_)
   ·try simp only[aL]at hc143
    iterate 7 refine AX ?_
    refine .p rfl (zA U89 rfl Z87 (tm rfl)) (.p rfl (zX isAgg87 (tm rfl)) (.mv rfl rfl (.p rfl (qD [(0,1)] U145 V145 (zr145) rfl (pl145 _ U145) .nil rfl) (.p rfl (aaW U145 rfl (tm rfl)) (.p rfl (yH U87 Z147 (tm rfl) (tm rfl) aA aA) (.e0 (yQ Pc.av (.fx []) j Z147 (tm rfl) (tm rfl) rfl rfl (oS _ _ _) aA (by rw[avZ,acG,bR];omega)) ?_))))));rw[sS];iterate 9 refine AX ?_
    refine Round.mk (J:=bzQ l gr sc o b n (afY r.1) (abH l) (aa+1) ee (abW l (qV o gr) (afY r.1) true false (afP l) (pcs.set kk (.fx (dec r.2.2)))) H) ⟨j+1,by omega,by omega,rfl,by rw[buL _ hj1];rfl,rfl⟩ sX (hRa _) aA
   try simp only[aL]at hc143
   iterate 14 refine AX ?_
   refine Ret.go (.cons (.tmp _ _ rfl) .nil) _ (hRa _) ?_;have hje:j=ee+1:=by omega
   subst hje;refine⟨?_,?_⟩
   ·unfold ayF;rw[aJ,aK,decide_not];rfl
   unfold anL;rw[aJ,aK,hkk,hee,haa]
  try simp only[aL]at hc128
  iterate 2 refine AX ?_
  refine Meets.mk (M:=bnC l gr sc o b n r pcs H) ⟨dec r.2.1,(abW l (qV o gr) (afY r.1) true false (afP l) (pcs.set kk (.fx (dec r.2.2)))),by rw[acG,bR];exact hpn,by have:=ajL (n:=r.2.1) aA;omega,by unfold anL;rw[aJ,aJ,hkk],by have:=avJ r.2.1;unfold ayF;rw[aJ,aJ,aQ (p:=dec r.2.1≠[]) (bK.1 this),Bool.true_or],rfl,rfl⟩ sX (hRa _)
 rintro _ _ ⟨nm,q3,hq3,hnm,hQ,hB,rfl,rfl⟩;iterate 5 refine AX ?_
 refine .s rfl (zD call101 (evs3 rfl rfl rfl) (ahG l gr sc o b n nm (auV l) q3 ho hs2 aA hnl hq3 (λk hk=>by have:=(qM.1 hk).1;omega) aA aA _ (oS _ _ _))) ?_;rintro _ _ hH;obtain rfl:=hH;rw[sS];iterate 7 refine AX ?_
 refine zC (t:=162) rfl (λhg162=>?_) (λhg162=>?_)
 ·have hh162:=hg162;try simp only[aL]at hh162
  iterate 7 refine AX ?_
  refine Ret.go (.cons (.tmp _ _ rfl) .nil) _ (hRa _) ?_;refine⟨?_,by rw[hQ]⟩;rw[hB];show AV.bool _=_;refine congrArg AV.bool ?_
  simp_all
 have hh162:=hg162;try simp only[aL]at hh162
 iterate 7 refine AX ?_
 refine Ret.go (.cons (.tmp _ _ rfl) .nil) _ (hRa _) ?_;refine⟨?_,by rw[hQ]⟩;rw[hB];show AV.bool _=_;refine congrArg AV.bool ?_
 simp_all
end
theorem brU{a:Nat}(h:a<18446744073709551616):a-(a&&&9223372036854775808)=a%9223372036854775808:=by
 have e:a&&&9223372036854775808=if a.testBit 63 then 9223372036854775808 else 0:=by
  apply Nat.eq_of_testBit_eq;intro i;rw[Nat.testBit_and,show(9223372036854775808:Nat)=2^63 by decide,Nat.testBit_two_pow];by_cases hi:63=i
  ·subst hi;cases a.testBit 63
   ·simp
   simp only[decide_true,Bool.and_self,if_true];rw[Nat.testBit_two_pow];simp
  cases a.testBit 63
  ·simp[hi]
  simp only[hi,decide_false,Bool.and_false,if_true];rw[Nat.testBit_two_pow];simp[hi]
 rw[e,Nat.testBit_eq_decide_div_mod_eq];have h2:(2:Nat)^63=9223372036854775808:=by decide
 rw[h2];split<;>simp_all<;>omega
theorem alB(x:Nat):abK x<18446744073709551616:=by unfold abK;omega
theorem alC(x:Nat):yZ (abK x)=yZ x:=by
 have h1:abK x/4503599627370496%2048=x/4503599627370496%2048:=by unfold abK;omega
 have h2:abK x%4503599627370496=x%4503599627370496:=by unfold abK;omega
 unfold yZ;rw[h1,h2]
theorem atV{p:List SecN}(h:1≤p.length)(x:Nat):aqU p x∈p:=by
 unfold aqU;split
 ·rw[adX (show 1<p.length by omega)];exact bM _
 split
 ·rw[adX (show 2<p.length by omega)];exact bM _
 rw[adX (show 0<p.length by omega)];exact bM _
theorem brJ(l:List ItN)(a k:Nat)(h:a+k≤l.length):(acN l a (a+k)).length=zV ((l.drop a).take k) 2:=by
 induction k with
 |zero=>rw[cM,bnK];rfl
 |succ k ih=>
  have hk:k<(l.drop a).length:=by rw[bC];omega
  rw[show a+(k+1)=a+k+1 by omega,atE l aA,aR,ih aA];unfold zV;rw[←bP hk,List.countP_append,qB (show a+k<l.length by omega),List.getElem_drop];by_cases q:(l[a+k]'aA).kind=2<;>simp[q]
theorem bwQ(l:List ItN):(abH l).length=zV (l.drop (yW l)) 2:=by
 have hc:yW l≤l.length:=aaK l [6];have:=brJ l (yW l) (l.length-yW l) aA;rw[show yW l+(l.length-yW l)=l.length by omega,aZ (by rw[bC];omega)]at this;exact this
theorem alM{s:SecN}(h:zY s=4):s.items.all afS=true∧s.grouped=false∧s.scale=0∧1≤(abH s.items).length∧(abH s.items).length≤4∧0<yW s.items∧aaU s.items (yW s.items-1)=2∧zV s.items 3+zV s.items 4+zV s.items 5=0∧zV s.items 6=1∧zV s.items 7=0∧zV s.items 8=0:=by
 obtain⟨l,gr,sc⟩:=s;unfold zY at h;simp only at h ⊢;by_cases h1:l.all afS=false
 ·rw[aN h1]at h;omega
 rw[aM h1]at h;have hsh:shp l=4∧gr=false∧sc=0:=by
  split at h
  ·split at h<;>omega
  split at h
  ·rename_i g;exact⟨h,g⟩
  omega
 rw[bwQ];have hc:yW l≤l.length:=aaK l [6];have hx:1≤zV (l.drop (yW l)) 2∧zV (l.drop (yW l)) 2≤4∧0<(l.take (yW l)).length∧((l.take (yW l)).getD ((l.take (yW l)).length-1) ⟨0,[]⟩).kind=2∧zV l 3+zV l 4+zV l 5=0∧zV l 6=1∧zV l 7=0∧zV l 8=0:=by
  have hs:=hsh.1;unfold shp at hs
  repeat' split at hs
  all_goals first|omega|skip
  rename_i q1 q2 q3 q4 q5 q6
  have:zV l 7=0∧zV l 8=0:=by omega
  exact⟨q6.2.2.2.1,q6.2.2.2.2,q6.1,q6.2.1,q5.2,q5.1,this⟩
 obtain⟨x1,x2,x3,x4,x5⟩:=hx;rw[aU]at x3 x4;refine⟨by simpa using h1,hsh.2.1,hsh.2.2,x1,x2,by omega,?_,x5⟩;rw[cQ hc]at x4;rw[aS,dZ aA,←aS]at x4;exact x4
theorem aqN(hk:yZ x<3): -4000≤yF (agF x).1.2.1 (agF x).1.2.2∧yF (agF x).1.2.1 (agF x).1.2.2≤4000:=by
 have hm:=agP x;have hp:=acE x;have he:=blW (ahQ x) (m:=zT x) (e:=zH x) aA hp;have hr:=acO x;rw[qQ hr];have hl:=(yO hr).1;unfold agF at hl ⊢;rw[aJ]at hl ⊢
 dsimp only at hl ⊢
 omega
/-! ### how long -/
theorem bgM{neg:Bool}{ds:List UInt8}{e:Int}{q:List Pc}{m:Nat}(hm:20010≤m)(hl:l.length≤10000)(hr:yN ds e=true)(hp: -4000≤yF ds e∧yF ds e≤4000)(h:∀p,p∈q→p.txt.length≤m):∀p,p∈bdU l neg ds e q→p.txt.length≤m:=by
 unfold bdU;split
 ·obtain⟨h1,h2⟩:=auW (l:=l) hr hp;have ha:(afU l).length≤l.length:=bH (abA _ _ _) (aaK _ _);have hw:=baQ neg ds (axX l ds e) (max 1 (afU l).length) ((abS l).length:Int) aA aA aA;unfold btQ;have hd:=ajL (n:=(byJ l neg ds e).1.natAbs) (by unfold byJ;omega);have hg:=abA l (yC l [5]) l.length;refine afX ?_ (afX ?_ h)
  ·simp only[Pc.txt,blJ,aR,bA];omega
  simp only[Pc.txt,anJ];repeat' split
  all_goals simp only[aX,aY]
  all_goals omega
 exact h
theorem bgN{gr:Bool}{sc:Int}{neg:Bool}{ds:List UInt8}{e:Int}{q:List Pc}(ho:o.ok)(hl:l.length≤10000)(hsc:0≤sc∧sc≤20000)(hr:yN ds e=true)(hp: -4000≤yF ds e∧yF ds e≤4000)(h:∀p,p∈q→p.txt.length≤1200000):∀p,p∈boT l gr sc o neg ds e q→p.txt.length≤1200000:=by
 have hn:=auX (l:=l) (sc:=sc) (neg:=neg) hr hp hl hsc;have hs:=atS hn.1 hn.2;have hQ:=bgM (l:=l) (neg:=neg) (ds:=ds) (e:=e) (show 20010≤1200000 by decide) hl hr hp h;unfold boT bxZ;generalize arT (akI l sc neg ds e) (abS l).length=S at *;have hP:=auT (l:=l) (row:=S.2) (show 1≤1200000 by decide) (abG l 0 (abS l) (adY S.2)) 0 (abS l) _ hQ;refine afF (akK ho gr) aA _ _ _ _ ?_;split
 ·refine afX ?_ hP;have:=ho.1;simp only[Pc.txt,aR];omega
 exact hP
theorem bbK{gr:Bool}{most:Nat}{q:List Pc}(ho:o.ok)(hm:1≤most∧most≤9999)(h:∀p,p∈q→p.txt.length≤1200000):∀p,p∈anL l gr o (afB x most) q→p.txt.length≤1200000:=by
 obtain⟨_,_,h3,_,h5⟩:=asE x hm;have h7:=(auJ x hm).2;have h8:=(azO x hm).2.2.2;generalize afB x most=r at *;have d1:=ajL (n:=r.2.2) aA;have d2:=ajL (n:=r.2.1) aA;have hq:∀k p,p∈q.set k (.fx (dec r.2.2))→p.txt.length≤1200000:=λk=>afX (by simp only[Pc.txt];omega) h;have hw:∀k p,p∈abW l (qV o gr) (afY r.1) true false (afP l) (q.set k (.fx (dec r.2.2)))→p.txt.length≤1200000:=λk=>afF (akK ho gr) aA _ _ _ _ (hq k);unfold anL;split
 ·exact afF (akK ho gr) aA _ _ _ _ (hq _)
 split
 ·exact azN (hw _)
 exact afF (akK ho gr) aA _ _ _ _ (hw _)
theorem bqM(l:List ItN)(gr:Bool)(sc:Int)(o:Loc)(neg:Bool)(ds:List UInt8)(e:Int)(q:List Pc):(boT l gr sc o neg ds e q).length=q.length:=by
 unfold boT bxZ;rw[acG];split
 ·rw[bR,agO,auU]
 rw[agO,auU]
theorem bnD(l:List ItN)(gr:Bool)(o:Loc)(r:(Bool×List UInt8×Int)×Nat×Nat)(q:List Pc):(anL l gr o r q).length=q.length:=by
 unfold anL;split
 ·rw[acG,bR]
 split
 ·rw[avZ,acG,bR]
 rw[acG,acG,bR]
theorem bvX(h1:1≤(abH l).length)(h4:(abH l).length≤4):1≤adE l∧adE l≤9999:=by
 unfold adE;rcases(by omega:(abH l).length=1∨(abH l).length=2∨(abH l).length=3∨(abH l).length=4)with q|q|q|q<;>rw[q]<;>decide
theorem anS(ho:o.ok){s:SecN}(hl:s.items.length≤100)(hi:s.items.all afS=true)(hk:yZ x<3):(qI o s x).1.length=s.items.length∧(afA (qI o s x).1).length≤200000000:=by
 have hlay:=asT ho hi (m:=1200000) aC;have hka:yZ (abK x)<3:=by rw[alC];exact hk
 have key:(qI o s x).1.length=s.items.length∧∀p,p∈(qI o s x).1→p.txt.length≤1200000:=by
  unfold qI;split
  ·exact⟨by rw[alA,bQ],amH (bH (awO ho hk) aC) hlay⟩
  split
  ·exact⟨by rw[alA,bQ],amH (bH (awO ho hka) aC) hlay⟩
  split
  ·rename_i q
   obtain⟨_,_,h3,h4,_⟩:=ahE q;exact⟨by rw[bqM,bQ],bgN ho aA aA (acO _) (aqN hka) hlay⟩
  split
  ·rename_i q
   obtain⟨_,_,_,h4,h5,_⟩:=alM q;exact⟨by rw[bnD,bQ],bbK ho (bvX h4 h5) hlay⟩
  exact⟨by rw[bQ],hlay⟩
 refine⟨key.1,?_⟩;have:=arQ key.2;rw[key.1]at this;exact bH this (bH (bG _ hl) aC)
section
open Go Go.RowKit
set_option maxRecDepth 100000
theorem boP(x:Nat)(hx:x<18446744073709551616)(hk:yZ x<3):Fn 34 [.int .u64 (x:Int)] (.int .u64 ((abK x:Nat):Int)):=by
 intro H;refine .of_body func34 rfl ntmps34 results34 rfl ?_;iterate 9 refine AM ?_
 refine .cl rfl C31 (evs1 rfl) (aeM x hx _) ?_;iterate 3 refine AX ?_
 refine .cx rfl (λhc5=>?_) (λhc5=>?_)
 ·omega
 iterate 5 refine AX ?_
 refine .p rfl (auR (tm rfl) (yT 9223372036854775808) aB aA) ?_;iterate 5 refine AX ?_
 refine⟨?_,rfl⟩;unfold abK;rw[←brU hx];rfl
theorem abC(p:List SecN)(tp:Tail)(hs:∀s,s∈p→s.items.length≤1000)(x:Nat)(hx:x<18446744073709551616)(o:Loc)(ho:o.ok)(hs2:o.second=2∨o.second=3)(H:Heap):ACall prog 12 [.agg [adV p tp],.int .u64 (x:Int),pL o (szA o)] H (λy H'=>y= .tuple [.str (yV o p x).1,.int .i64 (yV o p x).2]∧H'=H):=by
 refine ACall.of_body func12 rfl ntmps12 results12 rfl ?_;iterate 13 refine AX ?_
 refine .cl rfl call30 (evs1 rfl) (anA p tp hs _) ?_;iterate 4 refine AX ?_
 refine AWP.cx rfl (λhc15=>?_) (λhc15=>?_)
 ·iterate 10 refine AX ?_
  refine⟨?_,rfl⟩;unfold yV;rw[aN (by simpa using hc15)];rfl
 have hr:aaN p=true:=by simpa using hc15
 obtain⟨hp1,hp4⟩:=aeJ hr;obtain⟨hl1,hl2,hl3⟩:=ahI hr (atV hp1 x);iterate 3 refine AX ?_
 refine .cl rfl C31 (evs1 rfl) (aeM x hx _) ?_;iterate 4 refine AX ?_
 refine AWP.cx rfl (λhc19=>?_) (λhc19=>?_)
 ·iterate 10 refine AX ?_
  refine⟨?_,rfl⟩;unfold yV;rw[aM (by rw[hr];simp),aK];rfl
 have hk:yZ x<3:=by omega
 have hka:yZ (abK x)<3:=by rw[alC];exact hk
 have hax:=alB x;obtain⟨hq1,hq2⟩:=anS ho hl1 hl2 hk;have hnt:yV o p x=((if(qI o (aqU p x) x).2=true∧x/9223372036854775808=1∧p.length=1 then o.minus else [])++afA (qI o (aqU p x) x).1,0):=by unfold yV;rw[aM (by rw[hr];simp),aJ]
 have hsec:=atU p tp ⟨hp1,hp4⟩ x hx;generalize aqU p x=z at *;obtain⟨l,gr,sc⟩:=z;have hl1:l.length≤100:=hl1;have hq1:(qI o ⟨l,gr,sc⟩ x).1.length=l.length:=hq1;iterate 4 refine AX ?_
 refine AWP.draw [(0,true),(1,true),(2,true),(3,true),(4,false),(5,true)] rfl aE ?_;iterate 2 refine AX ?_
 refine APlan.f rfl rfl (λ_=>zD call33 (evs2 rfl rfl) (hsec _)) ?_;refine AX ?_;refine .s rfl rfl (zD call32 (evs2 rfl rfl) (asA l gr sc o aA _)) ?_;rintro _ _ ⟨b,rfl,hb,rfl⟩;iterate 6 refine AX ?_
 refine .cl rfl call34 (evs1 rfl) (boP x hx hk _) ?_;iterate 8 refine AX ?_
 refine AWP.meet (λenv H2=>env=[(1,.int .u64 (x:Int)),(3,.iptr [adV p tp]),(5,.iptr (pL o (szA o)).cells),(8,.iptr (shC l gr sc o b l.length)),(10,.bool (qI o ⟨l,gr,sc⟩ x).2)]∧H2=H.set b (pcR (qI o ⟨l,gr,sc⟩ x).1)) ?_ ?_
 ·iterate 4 refine AX ?_
  refine .p rfl (zA U89 rfl Z52 (tm rfl)) ?_;refine AX ?_;refine .cl rfl call35 (evs1 rfl) (ajT l gr sc _ aA _) ?_;iterate 9 refine AX ?_
  refine AWP.cx rfl (λhc35=>?_) (λhc35=>?_)
  ·iterate 4 refine AX ?_
   refine .cl rfl call37 (evs2 rfl rfl) (alG o ho _ x hx _) (.s rfl (zD call36 (.cons (tm rfl) (.cons zJ (evs1 rfl))) (alU l gr sc o b l.length (l.map (abY o)) (by rw[bQ]) rfl aA 8 _ _ (oS _ _ _))) ?_);rintro _ _ rfl;rw[sS];iterate 3 refine AX ?_
   refine Meets.mk (M:=λenv H2=>env=[(1,.int .u64 (x:Int)),(3,.iptr [adV p tp]),(5,.iptr (pL o (szA o)).cells),(8,.iptr (shC l gr sc o b l.length)),(10,.bool (qI o ⟨l,gr,sc⟩ x).2)]∧H2=H.set b (pcR (qI o ⟨l,gr,sc⟩ x).1)) ⟨rfl,by unfold qI;rw[aN (show zY ⟨l,gr,sc⟩=6 by omega)]<;>rfl⟩ (zF rfl (zF rfl (zF rfl (zF rfl (zU rfl ((by unfold qI;rw[aN (show zY ⟨l,gr,sc⟩=6 by omega)]<;>rfl)) zW))))) (hRa _)
  iterate 6 refine AX ?_
  refine AWP.cx rfl (λhc42=>?_) (λhc42=>?_)
  ·iterate 4 refine AX ?_
   refine .cl rfl call37 (evs2 rfl rfl) (alG o ho _ (abK x) hax _) ?_;iterate 7 refine AX ?_
   refine .s rfl (zD call36 (.cons (tm rfl) (.cons zJ (evs1 rfl))) (alU l gr sc o b l.length (l.map (abY o)) (by rw[bQ]) rfl aA 7 _ _ (oS _ _ _))) ?_;rintro _ _ rfl;rw[sS];iterate 9 refine AX ?_
   refine Meets.mk (M:=λenv H2=>env=[(1,.int .u64 (x:Int)),(3,.iptr [adV p tp]),(5,.iptr (pL o (szA o)).cells),(8,.iptr (shC l gr sc o b l.length)),(10,.bool (qI o ⟨l,gr,sc⟩ x).2)]∧H2=H.set b (pcR (qI o ⟨l,gr,sc⟩ x).1)) ⟨rfl,by unfold qI;rw[aM (show¬zY ⟨l,gr,sc⟩=6 by omega),aN (show zY ⟨l,gr,sc⟩=5 by omega)]<;>rfl⟩ (zF rfl (zF rfl (zF rfl (zF rfl (zU rfl ((by unfold qI;rw[aM (show¬zY ⟨l,gr,sc⟩=6 by omega),aN (show zY ⟨l,gr,sc⟩=5 by omega)];exact congrArg AV.bool decide_not.symm)) zW))))) (hRa _)
  refine AWP.seqToL [(52,.bool (decide (zY ⟨l,gr,sc⟩=2∨zY ⟨l,gr,sc⟩=3)))] [1,3,5,6,7,8,9,10,34] ?_ ?_
  ·iterate 6 refine AX ?_
   refine AWP.cx rfl (λhc52=>?_) (λhc52=>?_)
   ·refine AX ?_;exact⟨rfl,(zU rfl (by exact congrArg AV.bool (aO.2 aA)) sX),rfl⟩
   iterate 4 refine AX ?_
   exact⟨rfl,(zU rfl (by exact congrArg AV.bool (aO.2 aA)) sX),rfl⟩
  refine AWP.sub [(52,_),(1,_),(3,_),(5,_),(6,_),(7,_),(8,_),(9,_),(10,_),(34,_)] sX ?_;refine AWP.cx rfl (λhc52=>?_) (λhc52=>?_)
  ·have hsh:zY ⟨l,gr,sc⟩=2∨zY ⟨l,gr,sc⟩=3:=by omega
   obtain⟨_,_,hs3,hs4,_⟩:=ahE hsh;obtain⟨_,hn2,hn3⟩:=apZ hsh;have hn2:(afU l).length=0→yC l [3,5]<yC l [5]:=λq=>(hn2 q).1;have hn3:yC l [5]<l.length→acN l (yC l [5]) l.length≠[]:=λq=>(hn3 q).1;have hs3:0≤sc:=hs3;have hs4:sc≤9:=hs4;have hfine:=aqN hka;have hc5:=aaK l [5];have hdr:=acO (abK x);iterate 3 refine AX ?_
   refine .cl rfl call38 (evs1 rfl) (arK (abK x) hax _) ?_;iterate 3 refine AX ?_
   refine .al zr61 (λb12 hb12=>?_);iterate 4 refine AX ?_
   refine AWP.frz (t:=12) rfl (hb12) ?_;iterate 3 refine AX ?_
   refine .s rfl (zD call39 (evs2 rfl rfl) (axU l gr sc o b l.length (l.map (abY o)) ho hs2 aA aA rfl (by rw[bQ]) (agF (abK x)).1.1 (agF (abK x)).1.2.1 (agF (abK x)).1.2.2 hdr hfine (λq=>by have:=hn2 q;omega) hn3 _ (oS _ _ _))) ?_;rintro _ _ ⟨rfl,hH⟩;obtain rfl:=hH;rw[sS];iterate 4 refine AX ?_
   refine Meets.mk (M:=λenv H2=>env=[(1,.int .u64 (x:Int)),(3,.iptr [adV p tp]),(5,.iptr (pL o (szA o)).cells),(8,.iptr (shC l gr sc o b l.length)),(10,.bool (qI o ⟨l,gr,sc⟩ x).2)]∧H2=H.set b (pcR (qI o ⟨l,gr,sc⟩ x).1)) ⟨rfl,by unfold qI;rw[aM (show¬zY ⟨l,gr,sc⟩=6 by omega),aM (show¬zY ⟨l,gr,sc⟩=5 by omega),aN (show zY ⟨l,gr,sc⟩=2∨zY ⟨l,gr,sc⟩=3 by omega)]<;>rfl⟩ (zF rfl (zF rfl (zF rfl (zF rfl (zU rfl ((by unfold qI;rw[aM (show¬zY ⟨l,gr,sc⟩=6 by omega),aM (show¬zY ⟨l,gr,sc⟩=5 by omega),aN (show zY ⟨l,gr,sc⟩=2∨zY ⟨l,gr,sc⟩=3 by omega)]<;>rfl)) zW))))) (hRa _)
  iterate 6 refine AX ?_
  refine AWP.cx rfl (λhc63=>?_) (λhc63=>?_)
  ·obtain⟨_,_,_,hf4,hf5,_⟩:=alM (s:=⟨l,gr,sc⟩) aA;iterate 3 refine AX ?_
   refine .s rfl (zD call40 (evs2 rfl rfl) (arC l gr sc o b l.length (l.map (abY o)) ho hs2 aA rfl (by rw[bQ]) (abK x) hax hka (aaK l [6]) hf4 hf5 _ (oS _ _ _))) ?_;rintro _ _ ⟨rfl,hH⟩;obtain rfl:=hH;rw[sS];iterate 4 refine AX ?_
   refine Meets.mk (M:=λenv H2=>env=[(1,.int .u64 (x:Int)),(3,.iptr [adV p tp]),(5,.iptr (pL o (szA o)).cells),(8,.iptr (shC l gr sc o b l.length)),(10,.bool (qI o ⟨l,gr,sc⟩ x).2)]∧H2=H.set b (pcR (qI o ⟨l,gr,sc⟩ x).1)) ⟨rfl,by unfold qI;rw[aM (show¬zY ⟨l,gr,sc⟩=6 by omega),aM (show¬zY ⟨l,gr,sc⟩=5 by omega),aM (show¬(zY ⟨l,gr,sc⟩=2∨zY ⟨l,gr,sc⟩=3) by omega),aN (show zY ⟨l,gr,sc⟩=4 by omega)]<;>rfl⟩ (zF rfl (zF rfl (zF rfl (zF rfl (zU rfl ((by unfold qI;rw[aM (show¬zY ⟨l,gr,sc⟩=6 by omega),aM (show¬zY ⟨l,gr,sc⟩=5 by omega),aM (show¬(zY ⟨l,gr,sc⟩=2∨zY ⟨l,gr,sc⟩=3) by omega),aN (show zY ⟨l,gr,sc⟩=4 by omega)]<;>rfl)) zW))))) (hRa _)
  iterate 3 refine AX ?_
  refine Meets.mk (M:=λenv H2=>env=[(1,.int .u64 (x:Int)),(3,.iptr [adV p tp]),(5,.iptr (pL o (szA o)).cells),(8,.iptr (shC l gr sc o b l.length)),(10,.bool (qI o ⟨l,gr,sc⟩ x).2)]∧H2=H.set b (pcR (qI o ⟨l,gr,sc⟩ x).1)) ⟨rfl,by unfold qI;rw[aM (show¬zY ⟨l,gr,sc⟩=6 by omega),aM (show¬zY ⟨l,gr,sc⟩=5 by omega),aM (show¬(zY ⟨l,gr,sc⟩=2∨zY ⟨l,gr,sc⟩=3) by omega),aM (show¬zY ⟨l,gr,sc⟩=4 by omega)]<;>rfl⟩ (zF rfl (zF rfl (zF rfl (zF rfl (zU rfl ((by unfold qI;rw[aM (show¬zY ⟨l,gr,sc⟩=6 by omega),aM (show¬zY ⟨l,gr,sc⟩=5 by omega),aM (show¬(zY ⟨l,gr,sc⟩=2∨zY ⟨l,gr,sc⟩=3) by omega),aM (show¬zY ⟨l,gr,sc⟩=4 by omega)]<;>rfl)) zW))))) (hRa _)
 rintro _ _ ⟨rfl,rfl⟩;generalize qI o ⟨l,gr,sc⟩ x=S at *;iterate 3 refine AX ?_
 refine .cl rfl call41 (evs1 rfl) (aoX l gr sc o b l.length S.1 hq1 aA aA _ (oS _ _ _)) ?_;iterate 4 refine AX ?_
 refine AWP.seqTo 81 (.bool (decide (S.2=true∧x/9223372036854775808=1∧p.length=1))) [5,14] ?_ ?_
 ·iterate 3 refine AX ?_
  refine zC (t:=71) rfl (λhg71=>?_) (λhg71=>?_)
  ·have hh71:=hg71;try simp only[aL]at hh71
   iterate 5 refine AM ?_
   refine zC (t:=76) rfl (λhg76=>?_) (λhg76=>?_)
   ·have hh76:=hg76;try simp only[aL]at hh76
    refine .gp rfl rfl rfl aB (zA U24 rfl Z22 (tm rfl)) ?_;iterate 5 refine AX ?_
    exact⟨rfl,zO rfl (by(refine Eq.symm ?_;first|(refine aO.2 ⟨λq=>by omega,λq=>⟨by assumption,by omega,by omega⟩⟩)|(refine aP λq=>?_;obtain⟨q1,q2,q3⟩:=q;first|omega|simp_all))) sX,rfl⟩
   have hh76:=hg76;try simp only[aL]at hh76
   iterate 6 refine AX ?_
   exact⟨rfl,zO rfl (by(refine Eq.symm ?_;first|(refine aO.2 ⟨λq=>by omega,λq=>⟨by assumption,by omega,by omega⟩⟩)|(refine aP λq=>?_;obtain⟨q1,q2,q3⟩:=q;first|omega|simp_all))) sX,rfl⟩
  have hh71:=hg71;try simp only[aL]at hh71
  iterate 11 refine AX ?_
  exact⟨rfl,zO rfl (by(refine Eq.symm ?_;first|(refine aO.2 ⟨λq=>by omega,λq=>⟨by assumption,by omega,by omega⟩⟩)|(refine aP λq=>?_;obtain⟨q1,q2,q3⟩:=q;first|omega|simp_all))) sX,rfl⟩
 refine AWP.sub [(81,_),(5,_),(14,_)] sX ?_;refine AWP.cx rfl (λhc81=>?_) (λhc81=>?_)
 ·refine AX ?_;refine .p rfl (zA U32 rfl Z9 (tm rfl)) ?_;iterate 2 refine AX ?_
  refine .p rfl (zQ (tm rfl) (tm rfl) (by have:=ho.2.2.1;rw[zN];omega)) ?_;iterate 11 refine AX ?_
  refine Ret.go (.cons (.tmp _ _ rfl) (.cons (.tmp _ _ rfl) .nil)) H (Heap.le_set hb _) ?_;refine⟨?_,rfl⟩;rw[hnt,aN hc81];rfl
 iterate 10 refine AX ?_
 refine Ret.go (.cons (.tmp _ _ rfl) (.cons (.tmp _ _ rfl) .nil)) H (Heap.le_set hb _) ?_;refine⟨?_,rfl⟩;rw[hnt,aM hc81,cP];rfl
end
end Go.Proofs.YteedncdcbgplfaaGreatDoor
