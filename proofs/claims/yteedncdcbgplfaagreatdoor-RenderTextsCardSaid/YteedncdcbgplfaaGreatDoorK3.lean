import Derived.Test.YteedncdcbgplfaaGreatDoorK2
set_option maxHeartbeats 1000000
namespace Go.Proofs.YteedncdcbgplfaaGreatDoor
open Go.Proofs.Tryz
open Go Go.RowKit
variable{x:Nat}{l:List ItN}{o:Loc}
section
set_option maxRecDepth 100000
def allD:List UInt8:=[48,49,50,51,52,53,54,55,56,57]
theorem biH{b:UInt8}(h:isD b):allD.contains b=true:=by
 have h1:b=UInt8.ofNat b.toNat:=by simp
 obtain⟨h2,h3⟩:=h;rw[h1];have:∀k,48≤k→k≤57→allD.contains (UInt8.ofNat k)=true:=by
  intro k a b;have:k=48∨k=49∨k=50∨k=51∨k=52∨k=53∨k=54∨k=55∨k=56∨k=57:=by omega
  rcases this with rfl|rfl|rfl|rfl|rfl|rfl|rfl|rfl|rfl|rfl<;>rfl
 exact this _ h2 h3
theorem apO{α:Type}{l:List α}{q:α→Bool}(h:∀x,x∈l→q x=true):l.dropWhile q=[]:=by
 induction l with
 |nil=>rfl
 |cons x l ih=>rw[List.dropWhile_cons,aM (h x aF)];exact ih λy hy=>h y (by simp[hy])
theorem baS{s:List UInt8}(h:Digs s):Lib.trimS s allD=[]:=by
 have h1:s.reverse.dropWhile (allD.contains ·)=[]:=apO λx hx=>biH (h x (by simpa using hx));show((s.reverse.dropWhile (allD.contains ·)).reverse.dropWhile (allD.contains ·))=[];rw[h1];rfl
theorem arJ:∀s:List UInt8,num (s.dropWhile (·==48))=num s
 | []=>rfl
 |c::r=>by
  rw[List.dropWhile_cons];split
  ·rename_i h
   have h1:c=48:=by simpa using h
   rw[arJ r,awK,h1];simp
  rfl
theorem bdC{l:List UInt8}(h:Digs l)(hl:l.length≤2400):num l<BIG:=by
 have h1:=arK h;obtain⟨a,ha,h3⟩:∃a:Nat,a=2400∧10^a<BIG:=⟨2400,rfl,by unfold BIG;decide+kernel⟩;have h2:10^l.length≤10^a:=bU aC aA;exact cS h1 (bK h2 (eP h3))
theorem auH{s p t:List UInt8}{n:Nat}(h:Digs s)(hl:s.length≤2000)(e:s=p++t)(hn:n=min 9 t.length)(ht:0<t.length):t.take n≠[]∧Digs (t.take n)∧(t.take n).length≤18∧10^n<BIG∧num p<BIG∧num p*10^n<BIG∧num p*10^n+num (t.take n)<BIG∧num (p++t.take n)=num p*10^n+num (t.take n)∧s=(p++t.take n)++t.drop n∧num (t.take n)<1000000000∧n≤t.length∧n≤9∧0<n:=by
 have hlen:(t.take n).length=n:=by rw[aU];omega
 have hp:Digs p:=λb hb=>h b (by rw[e];simp[hb]);have htd:Digs t:=λb hb=>h b (by rw[e];simp[hb]);have hps:p.length+t.length≤2000:=by rw[e,aQ]at hl;exact hl
 have hq:num (p++t.take n)=num p*10^n+num (t.take n):=by rw[anP,hlen]
 have hd2:Digs (p++t.take n):=λb hb=>by
  rcases dK.1 hb with h1|h1
  ·exact hp b h1
  exact htd.take n b h1
 have hB:=bdC hd2 (by rw[aQ,hlen];omega);rw[hq]at hB;have hpB:10^n<BIG:=by
  have h2:10^n≤10^9:=bU aC aA;exact bG h2 (by unfold BIG;decide+kernel)
 have hn9:=arK (htd.take n);rw[hlen]at hn9;have h9:10^n≤10^9:=bU aC aA;refine⟨λh0=>?_,htd.take n,by omega,hpB,bdC hp aA,by omega,hB,hq,by rw[bE,cE];exact e,by omega,by omega,by omega,by omega⟩;rw[h0]at hlen;simp at hlen;omega
def bcR(s0:List UInt8)(H:Heap):Nat→Env→Heap→Prop:=λk env H1=>∃p t:List UInt8,s0=p++t∧env=[(0,.str t),(4,aaS (num p)),(5,.int .i64 0)]∧H=H1∧k=t.length
theorem avF(s:List UInt8)(hne:s≠[])(hd:Digs s)(hl:s.length≤2000):Fn 105 [.str s] (.tuple [aaS (num s),.int .i64 0]):=by
 intro H;have hd0:=hd.dropWhile (·==48);have hl0:(s.dropWhile (·==48)).length≤2000:=bK (cX _).length_le hl;have hnz:=arJ s;refine .of_body func105 rfl ntmps105 results105 rfl ?_;iterate 3 refine AM ?_
 iterate 4 refine AX ?_
 refine .seqTo 17 (.bool (false)) [0,2,3] ?_ ?_
 ·iterate 4 refine AX ?_
  refine zB (t:=13) rfl (λhg13=>?_) (λhg13=>?_)
  ·iterate 5 refine AX ?_
   exact⟨rfl,zP rfl (by(simp at hg13;exact absurd hg13 hne)) sX,rfl⟩
  refine AX ?_;refine .gs rfl rfl rfl aB (zE call192 (.cons (tm rfl) (.cons (zM rfl) .nil)) (trimSetA _ aC aC _ _)) ?_;rintro _ _ ⟨rfl,hH⟩;obtain rfl:=hH.symm;iterate 3 refine AX ?_
  exact⟨rfl,zP rfl (by(rw[show Lib.trimS s [48,49,50,51,52,53,54,55,56,57]=[]from baS hd];rfl)) sX,rfl⟩
 refine .sub [(17,_),(0,_),(2,_),(3,_)] sX ?_;refine .cond_false (tm rfl) aD ?_;iterate 5 refine AX ?_
 refine .cl rfl call108 (.cons (tm rfl) (.cons (zM rfl) .nil)) (trimLeftA 48 aC _ _) ?_;iterate 5 refine AX ?_
 generalize s.dropWhile (·==48)=s0 at *;iterate 6 refine AX ?_
 refine .cx rfl (λhc22=>?_) (λhc22=>?_)
 ·omega
 iterate 9 refine AM ?_
 iterate 5 refine AX ?_
 refine .loopW (bcR s0 H) (s0.length) ⟨[],s0,rfl,rfl,rfl,rfl⟩ sX (hRa _) ?_;rintro _ _ _ ⟨p,t,he,rfl,rfl,hk⟩;iterate 8 refine AX ?_
 refine .cx rfl (λhc25=>?_) (λhc25=>?_)
 ·iterate 3 refine AX ?_
  refine .seqToL [(6,.int .i64 ((min 9 t.length:Nat):Int))] [0,4,5] ?_ ?_
  ·iterate 6 refine AX ?_
   exact⟨rfl,(yD rfl (by congr 1;simp only[arR];first|omega|(split<;>omega)) sX),rfl⟩
  refine .sub [(6,_),(0,_),(4,_),(5,_)] sX ?_;generalize hn:min 9 t.length=n;obtain⟨hq1,hq2,hq3,hpB,hB1,hB2,hB3,hnum,hsplit,hn9,hnt,hn99,hn0⟩:=auH hd0 hl0 he hn.symm aA;iterate 5 refine AX ?_
  refine .cl rfl call102 (evs1 rfl) (atoiA (t.take n) hq1 hq2 hq3 _) ?_;iterate 10 refine AX ?_
  refine .cl rfl call170 (.cons zG (evs1 rfl)) (asJ 10 n aC aC aA hpB _) ?_;iterate 12 refine AX ?_
  refine .cl rfl C106 (evs2 rfl rfl) (mulB _ _ hB1 hpB hB2 _) ?_;iterate 13 refine AX ?_
  refine .cond_true (tm rfl) aD ?_;iterate 4 refine AX ?_
  refine .cl rfl C93 (evs1 rfl) (acD _ aA _) (.cl rfl call107 (evs2 rfl rfl) (addB _ _ hB3 _) ?_);iterate 14 refine AX ?_
  refine .cond_false (tm rfl) aD ?_;iterate 10 refine AX ?_
  have hdl:(t.drop n).length=t.length-n:=bD;refine Round.mk ⟨p++t.take n,t.drop n,hsplit,rfl,rfl,rfl⟩ (zJ rfl (yD rfl (by rw[hnum]) (zJ rfl yF))) (hRa _) aA
 iterate 14 refine AX ?_
 refine⟨?_,rfl⟩;have ht:t=[]:=dS.1 aA;rw[ht,bT]at he;rw[←hnz,he];rfl
end
section
open Go Go.RowKit
set_option maxRecDepth 100000
theorem awR{a:List Nat}{i:Nat}(h:i<a.length):a.getD i 0∈a:=by
 rw[aS,aR h];exact bF _
theorem bdG{a:List Nat}{q:Int}{j k:Nat}(hq:q.toNat=j)(h:j<a.length)(hk:a.getD j 0=k):(a.map bfP)[q.toNat]?=some (bfP k):=by rw[hq,←hk];exact arM h
def boC(l:List ItN)(gr:Bool)(sc:Int)(o:Loc)(b n:Nat)(x:Nat)(H:Heap):Nat→Env→Heap→Prop:=λk env H1=>∃i:Nat,i≤qC l∧afL l i=afL l (qC l)∧env=[(0,.iptr (shC l gr sc o b n)),(1,.int .u64 (x:Int)),(5,.int .i64 (qC l:Int)),(6,.int .i64 (i:Int))]∧H=H1∧k=i
def bpG(l:List ItN)(gr:Bool)(sc:Int)(o:Loc)(b n:Nat)(W:List UInt8)(be:List Nat)(a e:Nat)(q:List Pc)(H:Heap):Nat→Env→Heap→Prop:=λk env H1=>∃j:Nat,a≤j∧j≤e+1∧env=[(0,.iptr (shC l gr sc o b n)),(9,acI be .shared),(14,.str W),(19,.int .i64 (j:Int))]∧H1=H.set b (pcR (akE a j q))∧k=e+1-j
def beD(l:List ItN)(gr:Bool)(sc:Int)(o:Loc)(b n:Nat)(r:(Bool×List UInt8×Int)×Nat×Nat)(pcs:List Pc)(H:Heap):Env→Heap→Prop:=λenv H2=>∃nm q3,q3.length=n∧nm.length≤2500∧amN l gr o r pcs=aaY l (aaW o gr) nm true false (blN l) q3∧ayW l r=(decide (nm≠[])||decide (ajO r.1≠[]))∧env=[(0,.iptr (shC l gr sc o b n)),(8,acI (blN l) .shared),(14,.str (ajO r.1)),(16,.str nm)]∧H2=H.set b (pcR q3)
theorem amM(l:List ItN)(gr:Bool)(sc:Int)(o:Loc)(b n:Nat)(pcs:List Pc)(ho:o.ok)(hs2:o.second=2∨o.second=3)(hl:l.length≤10000)(hnl:n=l.length)(hpn:pcs.length=n)(x:Nat)(hx:x<18446744073709551616)(hkx:yT x<3)(hsl:qC l≤l.length)(hd1:1≤(aeV l).length)(hd4:(aeV l).length≤4)(H:Heap)(hb:H.objs b=some (pcR pcs)):ACall prog 40 [.iptr (shC l gr sc o b n),.int .u64 (x:Int)] H (λy H'=>y= .bool (ayW l (agC x (aiQ l)))∧H'=H.set b (pcR (amN l gr o (agC x (aiQ l)) pcs))):=by
 have hfl:=bhS l (qC l);have hmo:1≤aiQ l∧aiQ l≤9999:=by
  unfold aiQ;rcases(by omega:(aeV l).length=1∨(aeV l).length=2∨(aeV l).length=3∨(aeV l).length=4)with q|q|q|q<;>rw[q]<;>decide
 obtain⟨hr1,hr2,hr3,hr4,hr5⟩:=awD x hmo;obtain⟨hr6,hr7⟩:=atV x hmo;obtain⟨ht1,ht2,ht3,ht4⟩:=baT x hmo;have hrp:=qW hr1;have hrl:=yX hr1;have hdk:(aeV l).getD 0 0<l.length:=amE (λk hk=>(abJ.1 hk).1) hd1;obtain⟨kk,hkk⟩:∃kk,(aeV l).getD 0 0=kk:=⟨_,rfl⟩;rw[hkk]at hdk;have hde:(aeV l).getD ((aeV l).length-1) 0<l.length:=amE (λk hk=>(abJ.1 hk).1) aA;obtain⟨ee,hee⟩:∃ee,(aeV l).getD ((aeV l).length-1) 0=ee:=⟨_,rfl⟩;rw[hee]at hde;have hal:(amJ l).length≤l.length:=bK (acC _ _ _) aA;have hnl2:(blN l).length≤l.length:=bK (acC _ _ _) aA;have hBm:18014398509481984<BIG:=by unfold BIG;decide+kernel
 refine ACall.of_body func40 rfl ntmps40 results40 rfl ?_;iterate 8 refine AX ?_
 refine .e rfl (yU U30 Z3 V3 rfl zG (.inl rfl) ⟨rfl,rfl⟩) (.cl rfl C94 (evs2 rfl rfl) (adD l gr sc o b n aA [6] _ aC _) ?_);iterate 11 refine AX ?_
 refine AWP.loopW (boC l gr sc o b n x H) (qC l) ⟨qC l,bA _,rfl,rfl,rfl,rfl⟩ sX (hRa _) ?_;rintro _ _ _ ⟨i,hi,hfr,rfl,rfl,hk⟩;refine AX ?_;refine AWP.seqTo 38 (.bool (decide (0<i∧aaJ l (i-1)=2))) [0,1,5,6] ?_ ?_
 ·iterate 4 refine AX ?_
  refine zB (t:=26) rfl (λhg26=>?_) (λhg26=>?_)
  ·have hh26:=hg26;try simp only[aK]at hh26
   iterate 2 refine AX ?_
   refine .gp rfl rfl rfl aB (zA U89 rfl Z52 (tm rfl)) (.gp rfl rfl rfl aB (zA U52 rfl Z50 (tm rfl)) ?_);iterate 2 refine AX ?_
   refine .gp rfl rfl rfl aB (.say (b:=.int .i64 ((i-1:Nat):Int)) (by congr 1;omega) (aaD (tm rfl) zG aA)) ?_;refine AX ?_;refine .gp rfl rfl rfl aB (zA U57 rfl Z3 (tm rfl)) ?_;iterate 4 refine AX ?_
   exact⟨rfl,zP rfl (by(refine Eq.symm ?_;first|exact aN.2 ⟨λq=>(qB (i:=i-1) aA).symm.trans q.2,λq=>⟨by omega,(qB (i:=i-1) aA).trans q⟩⟩|exact aO aA)) sX,rfl⟩
  have hh26:=hg26;try simp only[aK]at hh26
  iterate 13 refine AX ?_
  exact⟨rfl,zP rfl (by(refine Eq.symm ?_;first|exact aN.2 ⟨λq=>(qB (i:=i-1) aA).symm.trans q.2,λq=>⟨by omega,(qB (i:=i-1) aA).trans q⟩⟩|exact aO aA)) sX,rfl⟩
 refine AWP.sub [(38,_),(0,_),(1,_),(5,_),(6,_)] sX ?_;refine AWP.cond (tm rfl) (λhc38=>?_) (λhc38=>?_)
 ·try simp only[aK]at hc38
  have hfn:=beB hc38;iterate 5 refine AX ?_
  refine .p rfl (.say (b:=.int .i64 ((i-1:Nat):Int)) (by congr 1;omega) (aaD (tm rfl) zG aA)) ?_;iterate 4 refine AX ?_
  refine Round.mk (J:=boC l gr sc o b n x H) ⟨i-1,by omega,hfn.trans hfr,rfl,rfl,rfl⟩ sX (hRa _) aA
 try simp only[aK]at hc38
 have hfe:=bhR hc38;rw[hfr]at hfe;obtain rfl:=hfe;iterate 6 refine AX ?_
 refine AWP.draw [(0,true),(1,true),(2,true),(3,true),(4,true),(5,true),(6,true),(7,true),(8,true),(9,true),(10,true),(11,true),(12,true),(13,true),(14,true),(15,true),(16,true),(17,true),(18,true)] rfl aE ?_;iterate 2 refine AX ?_
 refine APlan.f rfl rfl (λ_=>zE C95 (.cons (tm rfl) (.cons zG (evs1 rfl))) (abM l gr sc o b n aA 0 (afL l (qC l)) (Nat.zero_le _) aA _)) ?_;iterate 3 refine AX ?_
 refine APlan.f rfl rfl (λ_=>zE C95 (evs3 rfl rfl rfl) (abM l gr sc o b n aA (afL l (qC l)) (qC l) aA hsl _)) ?_;iterate 4 refine AX ?_
 refine .p rfl rfl (zA U89 rfl Z52 (tm rfl)) (.p rfl rfl (zA U52 rfl Z50 (tm rfl)) ?_);iterate 2 refine AX ?_
 refine APlan.f rfl rfl (λ_=>zE C95 (evs3 rfl rfl rfl) (abM l gr sc o b n aA (qC l) l.length hsl (bA _) _)) ?_;iterate 6 refine AX ?_
 rw[show aeY l 0 (afL l (qC l))=amJ l from rfl,show aeY l (afL l (qC l)) (qC l)=blN l from rfl,show aeY l (qC l) l.length=aeV l from rfl];iterate 3 refine AX ?_
 refine .cl rfl C103 (.cons (zM rfl) (evs1 rfl)) (repeatZ 57 _ (aeV l).length (by simp[aeV]) aA _) (.cl rfl call102 (evs1 rfl) (atoiA (List.replicate (aeV l).length 57) (by intro q;rw[List.replicate_eq_nil_iff]at q;omega) (bdF _) (by rw[aZ];omega) _) ?_);rw[show num (List.replicate (aeV l).length 57)=aiQ l from bdA _];iterate 11 refine AX ?_
 refine .cl rfl call104 (evs2 rfl rfl) (avD x (aiQ l) hx hkx hmo _) ?_;generalize agC x (aiQ l)=r at *;iterate 3 refine AX ?_
 refine .al zr174 (λb12 hb12=>?_);refine .e0 (zH Z174 (tm rfl) (tm rfl) rfl rfl (.inr ⟨_,rfl⟩) (oS _ _ _) (lB rfl)) ?_;try first|rw[sS]|rw[sU aB]
 iterate 3 refine AX ?_
 refine AWP.frz (t:=12) rfl (hb12) ?_;iterate 2 refine AX ?_
 refine .p rfl (zA U174 rfl Z61 (tm rfl)) ?_;refine AX ?_;refine .cl rfl call99 (.cons (tm rfl) (.cons zG .nil)) (ajC r.1.1 r.1.2.1 r.1.2.2 (qO hr1) aA aA 0 aA _) ?_;rw[show(acP r.1.2.1 (yC r.1.2.1 r.1.2.2) 0).1=ajO r.1 from rfl];iterate 8 refine AX ?_
 refine AWP.draw [(0,true),(1,true),(2,true),(3,true),(4,true),(5,true),(6,true),(7,true),(8,true),(9,true),(10,true),(11,true),(12,true),(13,false)] rfl aE ?_;iterate 2 refine AX ?_
 refine .p rfl rfl (zA U89 rfl Z87 (tm rfl)) ?_;iterate 2 refine AX ?_
 refine .p rfl rfl (qU U30 Z3 (tm rfl) zG aA (bdH hd1 hkk)) ?_;refine AX ?_;refine .p rfl rfl (zA U174 rfl Z3 (tm rfl)) (.p rfl rfl (zV G3 (tm rfl)) ?_);refine APlan.f rfl rfl (λ_=>zE C90 (evs1 rfl) (itoaA r.2.2 aA _)) ?_;refine .p rfl rfl (yO [(0,1)] U145 V145 (zr145) rfl (pl145 _ U145) (.cons (tm rfl) (.inl rfl) .nil) rfl) (.p rfl rfl (qP U145 rfl (tm rfl)) (.p rfl rfl (yH U87 Z147 (tm rfl) (tm rfl) aA aA) (.s0 rfl (yP Pc.av (.fx (dec r.2.2)) kk Z147 (tm rfl) (tm rfl) rfl rfl hb aA aA) ?_)));rintro _ _ ⟨rfl,hH⟩;obtain rfl:=hH.symm;iterate 4 refine AX ?_
 refine .p rfl (zA U174 rfl Z3 (tm rfl)) ?_;refine AX ?_;refine .cl rfl C90 (evs1 rfl) (itoaA r.2.1 aA _) ?_;iterate 3 refine AX ?_
 refine AWP.meet (beD l gr sc o b n r pcs H) ?_ ?_
 ·iterate 7 refine AX ?_
  refine AWP.cond (tm rfl) (λhc94=>?_) (λhc94=>?_)
  ·try simp only[aK]at hc94
   iterate 3 refine AX ?_
   refine .p rfl (zU (zM rfl) (tm rfl) (by simp only[zT,aQ,aW,aY]at *;omega)) (.cl rfl call105 (evs1 rfl) (avF (48::ajO r.1) aF hr6 aG _) ?_);iterate 10 refine AX ?_
   refine .p rfl (zA U174 rfl Z3 (tm rfl)) ?_;iterate 2 refine AX ?_
   refine .cl rfl C93 (evs1 rfl) (acD r.2.2 aA _) (.cl rfl C106 (evs2 rfl rfl) (mulB (num (48::ajO r.1)) r.2.2 ht1 aA ht2 _) ?_);iterate 9 refine AX ?_
   refine .p rfl (zA U174 rfl Z3 (tm rfl)) ?_;iterate 2 refine AX ?_
   refine .cl rfl C93 (evs1 rfl) (acD r.2.1 aA _) (.cl rfl call107 (evs2 rfl rfl) (addB (num (48::ajO r.1)*r.2.2) r.2.1 ht3 _) ?_);iterate 8 refine AX ?_
   refine .cl rfl call109 (evs1 rfl) (ajL (bfW r) ht3 _) (.cl rfl call108 (.cons (tm rfl) (.cons (zM rfl) .nil)) (trimLeftA 48 aC _ _) ?_);rw[bhX];iterate 3 refine AX ?_
   refine Meets.mk (M:=beD l gr sc o b n r pcs H) ⟨bmM (bfW r),(pcs.set kk (.fx (dec r.2.2))),by rw[bX];exact hpn,ht4,by unfold amN;rw[aJ,hkk],by unfold ayW;rw[aJ],rfl,rfl⟩ sX (hRa _)
  try simp only[aK]at hc94
  iterate 5 refine AX ?_
  refine .s rfl (zE call101 (evs3 rfl rfl rfl) (afE l gr sc o b n (ajO r.1) (amJ l) (pcs.set kk (.fx (dec r.2.2))) ho hs2 aA hnl (by simp only[aaX,bX];exact hpn) (λk hk=>by have:=(abJ.1 hk).1;omega) aA aA _ (oS _ _ _))) ?_;rintro _ _ hH;obtain rfl:=hH;rw[sS];iterate 4 refine AX ?_
  refine .p rfl (zA U174 rfl Z3 (tm rfl)) ?_;iterate 4 refine AX ?_
  refine AWP.cond (tm rfl) (λhc128=>?_) (λhc128=>?_)
  ·try simp only[aK]at hc128
   iterate 2 refine AX ?_
   have hak:(amJ l).getD ((amJ l).length-1) 0<l.length:=amE (λk hk=>by have:=(abJ.1 hk).1;omega) aA;obtain⟨aa,haa⟩:∃aa,(amJ l).getD ((amJ l).length-1) 0=aa:=⟨_,rfl⟩;have hae:aa<ee:=by
    have h1:=abJ.1 (show(amJ l).getD ((amJ l).length-1) 0∈aeY l 0 (afL l (qC l))from awR (a:=amJ l) aA);have h2:=abJ.1 (show(aeV l).getD ((aeV l).length-1) 0∈aeY l (qC l) l.length from awR (a:=aeV l) aA);rw[haa]at h1;rw[hee]at h2;omega
   rw[haa]at hak;iterate 5 refine AX ?_
   refine .p rfl (qU U30 Z3 (tm rfl) (tm rfl) aA (bdG (j:=(amJ l).length-1) aA aA haa)) ?_;iterate 6 refine AX ?_
   refine AWP.loopW (bpG l gr sc o b n (ajO r.1) (aeV l) (aa+1) ee (aaY l (aaW o gr) (ajO r.1) true false (amJ l) (pcs.set kk (.fx (dec r.2.2)))) H) (ee+1-(aa+1)) ⟨aa+1,bA _,by omega,rfl,by rw[bkE],rfl⟩ sX (hRa _) ?_;rintro _ _ _ ⟨j,hj1,hj2,rfl,rfl,hk⟩;iterate 8 refine AX ?_
   refine .p rfl (qU U30 Z3 (tm rfl) (tm rfl) aA (bdG (j:=(aeV l).length-1) aA aA hee)) ?_;iterate 4 refine AX ?_
   refine AWP.cond (tm rfl) (λhc143=>?_) (λhc143=>?_)
   ·try simp only[aK]at hc143
    iterate 7 refine AX ?_
    refine .p rfl (zA U89 rfl Z87 (tm rfl)) (.p rfl (zV isAgg87 (tm rfl)) (.mv rfl rfl (.p rfl (yO [(0,1)] U145 V145 (zr145) rfl (pl145 _ U145) .nil rfl) (.p rfl (qP U145 rfl (tm rfl)) (.p rfl (yH U87 Z147 (tm rfl) (tm rfl) aA aA) (.e0 (yP Pc.av (.fx []) j Z147 (tm rfl) (tm rfl) rfl rfl (oS _ _ _) aA (by rw[aqA,aaX,bX];omega)) ?_))))));rw[sS];iterate 9 refine AX ?_
    refine Round.mk (J:=bpG l gr sc o b n (ajO r.1) (aeV l) (aa+1) ee (aaY l (aaW o gr) (ajO r.1) true false (amJ l) (pcs.set kk (.fx (dec r.2.2)))) H) ⟨j+1,by omega,by omega,rfl,by rw[bkD _ hj1];rfl,rfl⟩ sX (hRa _) aA
   try simp only[aK]at hc143
   iterate 14 refine AX ?_
   refine Ret.go (.cons (.tmp _ _ rfl) .nil) _ (hRa _) ?_;have hje:j=ee+1:=by omega
   subst hje;refine⟨?_,?_⟩
   ·unfold ayW;rw[aI,aJ,decide_not];rfl
   unfold amN;rw[aI,aJ,hkk,hee,haa]
  try simp only[aK]at hc128
  iterate 2 refine AX ?_
  refine Meets.mk (M:=beD l gr sc o b n r pcs H) ⟨dec r.2.1,(aaY l (aaW o gr) (ajO r.1) true false (amJ l) (pcs.set kk (.fx (dec r.2.2)))),by rw[aaX,bX];exact hpn,by have:=alY (n:=r.2.1) aA;omega,by unfold amN;rw[aI,aI,hkk],by have:=auT r.2.1;unfold ayW;rw[aI,aI,aP (p:=dec r.2.1≠[]) (cG.1 this),Bool.true_or],rfl,rfl⟩ sX (hRa _)
 rintro _ _ ⟨nm,q3,hq3,hnm,hQ,hB,rfl,rfl⟩;iterate 5 refine AX ?_
 refine .s rfl (zE call101 (evs3 rfl rfl rfl) (afE l gr sc o b n nm (blN l) q3 ho hs2 aA hnl hq3 (λk hk=>by have:=(abJ.1 hk).1;omega) aA aA _ (oS _ _ _))) ?_;rintro _ _ hH;obtain rfl:=hH;rw[sS];iterate 7 refine AX ?_
 refine zB (t:=162) rfl (λhg162=>?_) (λhg162=>?_)
 ·have hh162:=hg162;try simp only[aK]at hh162
  iterate 7 refine AX ?_
  refine Ret.go (.cons (.tmp _ _ rfl) .nil) _ (hRa _) ?_;refine⟨?_,by rw[hQ]⟩;rw[hB];show AV.bool _=_;refine congrArg AV.bool ?_
  simp_all
 have hh162:=hg162;try simp only[aK]at hh162
 iterate 7 refine AX ?_
 refine Ret.go (.cons (.tmp _ _ rfl) .nil) _ (hRa _) ?_;refine⟨?_,by rw[hQ]⟩;rw[hB];show AV.bool _=_;refine congrArg AV.bool ?_
 simp_all
end
theorem biE{a:Nat}(h:a<18446744073709551616):a-(a&&&9223372036854775808)=a%9223372036854775808:=by
 have e:a&&&9223372036854775808=if a.testBit 63 then 9223372036854775808 else 0:=by
  apply Nat.eq_of_testBit_eq;intro i;rw[Nat.testBit_and,show(9223372036854775808:Nat)=2^63 by decide,Nat.testBit_two_pow];by_cases hi:63=i
  ·subst hi;cases a.testBit 63
   ·simp
   simp only[decide_true,Bool.and_self,if_true];rw[Nat.testBit_two_pow];simp
  cases a.testBit 63
  ·simp[hi]
  simp only[hi,decide_false,Bool.and_false,if_true];rw[Nat.testBit_two_pow];simp[hi]
 rw[e,Nat.testBit_eq_decide_div_mod_eq];have h2:(2:Nat)^63=9223372036854775808:=by decide
 rw[h2];split<;>simp_all<;>omega
theorem amF(x:Nat):abC x<18446744073709551616:=by unfold abC;omega
theorem akA(x:Nat):yT (abC x)=yT x:=by
 have h1:abC x/4503599627370496%2048=x/4503599627370496%2048:=by unfold abC;omega
 have h2:abC x%4503599627370496=x%4503599627370496:=by unfold abC;omega
 unfold yT;rw[h1,h2]
theorem avU{p:List SecN}(h:1≤p.length)(x:Nat):atF p x∈p:=by
 unfold atF;split
 ·rw[adQ (show 1<p.length by omega)];exact bF _
 split
 ·rw[adQ (show 2<p.length by omega)];exact bF _
 rw[adQ (show 0<p.length by omega)];exact bF _
theorem bhW(l:List ItN)(a k:Nat)(h:a+k≤l.length):(aeY l a (a+k)).length=zO ((l.drop a).take k) 2:=by
 induction k with
 |zero=>rw[cN,bjX];rfl
 |succ k ih=>
  have hk:k<(l.drop a).length:=by rw[bD];omega
  rw[show a+(k+1)=a+k+1 by omega,awW l aA,aQ,ih aA];unfold zO;rw[←bN hk,List.countP_append,qB (show a+k<l.length by omega),List.getElem_drop];by_cases q:(l[a+k]'aA).kind=2<;>simp[q]
theorem bmJ(l:List ItN):(aeV l).length=zO (l.drop (qC l)) 2:=by
 have hc:qC l≤l.length:=qZ l [6];have:=bhW l (qC l) (l.length-qC l) aA;rw[show qC l+(l.length-qC l)=l.length by omega,aX (by rw[bD];omega)]at this;exact this
theorem anB{s:SecN}(h:zX s=4):s.items.all aeA=true∧s.grouped=false∧s.scale=0∧1≤(aeV s.items).length∧(aeV s.items).length≤4∧0<qC s.items∧aaJ s.items (qC s.items-1)=2∧zO s.items 3+zO s.items 4+zO s.items 5=0∧zO s.items 6=1∧zO s.items 7=0∧zO s.items 8=0:=by
 obtain⟨l,gr,sc⟩:=s;unfold zX at h;simp only at h ⊢;by_cases h1:l.all aeA=false
 ·rw[aM h1]at h;omega
 rw[aL h1]at h;have hsh:shp l=4∧gr=false∧sc=0:=by
  split at h
  ·split at h<;>omega
  split at h
  ·rename_i g;exact⟨h,g⟩
  omega
 rw[bmJ];have hc:qC l≤l.length:=qZ l [6];have hx:1≤zO (l.drop (qC l)) 2∧zO (l.drop (qC l)) 2≤4∧0<(l.take (qC l)).length∧((l.take (qC l)).getD ((l.take (qC l)).length-1) ⟨0,[]⟩).kind=2∧zO l 3+zO l 4+zO l 5=0∧zO l 6=1∧zO l 7=0∧zO l 8=0:=by
  have hs:=hsh.1;unfold shp at hs
  repeat' split at hs
  all_goals first|omega|skip
  rename_i q1 q2 q3 q4 q5 q6
  have:zO l 7=0∧zO l 8=0:=by omega
  exact⟨q6.2.2.2.1,q6.2.2.2.2,q6.1,q6.2.1,q5.2,q5.1,this⟩
 obtain⟨x1,x2,x3,x4,x5⟩:=hx;rw[aU]at x3 x4;refine⟨by simpa using h1,hsh.2.1,hsh.2.2,x1,x2,by omega,?_,x5⟩;rw[cR hc]at x4;rw[aS,List.getElem?_take_of_lt aA,←aS]at x4;exact x4
theorem arV(hk:yT x<3): -4000≤yC (agY x).1.2.1 (agY x).1.2.2∧yC (agY x).1.2.1 (agY x).1.2.2≤4000:=by
 have hm:=ahK x;have hp:=acU x;have he:=bcY (auK x) (m:=zZ x) (e:=zN x) aA hp;have hr:=acJ x;rw[qW hr];have hl:=(yX hr).1;unfold agY at hl ⊢;rw[aI]at hl ⊢
 dsimp only at hl ⊢
 omega
/-! ### how long -/
theorem ayO{neg:Bool}{ds:List UInt8}{e:Int}{q:List Pc}{m:Nat}(hm:20010≤m)(hl:l.length≤10000)(hr:yL ds e=true)(hp: -4000≤yC ds e∧yC ds e≤4000)(h:∀p,p∈q→p.txt.length≤m):∀p,p∈bdD l neg ds e q→p.txt.length≤m:=by
 unfold bdD;split
 ·obtain⟨h1,h2⟩:=auJ (l:=l) hr hp;have ha:(aiY l).length≤l.length:=bK (acC _ _ _) (qZ _ _);have hw:=bcE neg ds (baI l ds e) (max 1 (aiY l).length) ((adK l).length:Int) aA aA aA;unfold bmV;have hd:=alY (n:=(boW l neg ds e).1.natAbs) (by unfold boW;omega);have hg:=acC l (zW l [5]) l.length;refine adP ?_ (adP ?_ h)
  ·simp only[Pc.txt,bnO,aQ,aZ];omega
  simp only[Pc.txt,baH];repeat' split
  all_goals simp only[aW,aY]
  all_goals omega
 exact h
theorem ayP{gr:Bool}{sc:Int}{neg:Bool}{ds:List UInt8}{e:Int}{q:List Pc}(ho:o.ok)(hl:l.length≤10000)(hsc:0≤sc∧sc≤20000)(hr:yL ds e=true)(hp: -4000≤yC ds e∧yC ds e≤4000)(h:∀p,p∈q→p.txt.length≤1200000):∀p,p∈blM l gr sc o neg ds e q→p.txt.length≤1200000:=by
 have hn:=bdE (l:=l) (sc:=sc) (neg:=neg) hr hp hl hsc;have hs:=bbE hn.1 hn.2;have hQ:=ayO (l:=l) (neg:=neg) (ds:=ds) (e:=e) (show 20010≤1200000 by decide) hl hr hp h;unfold blM boV;generalize bfN (asP l sc neg ds e) (adK l).length=S at *;have hP:=apE (l:=l) (row:=S.2) (show 1≤1200000 by decide) (aeM l 0 (adK l) (aeB S.2)) 0 (adK l) _ hQ;refine acZ (ahO ho gr) aA _ _ _ _ ?_;split
 ·refine adP ?_ hP;have:=ho.1;simp only[Pc.txt,aQ];omega
 exact hP
theorem auQ{gr:Bool}{most:Nat}{q:List Pc}(ho:o.ok)(hm:1≤most∧most≤9999)(h:∀p,p∈q→p.txt.length≤1200000):∀p,p∈amN l gr o (agC x most) q→p.txt.length≤1200000:=by
 obtain⟨_,_,h3,_,h5⟩:=awD x hm;have h7:=(atV x hm).2;have h8:=(baT x hm).2.2.2;generalize agC x most=r at *;have d1:=alY (n:=r.2.2) aA;have d2:=alY (n:=r.2.1) aA;have hq:∀k p,p∈q.set k (.fx (dec r.2.2))→p.txt.length≤1200000:=λk=>adP (by simp only[Pc.txt];omega) h;have hw:∀k p,p∈aaY l (aaW o gr) (ajO r.1) true false (amJ l) (q.set k (.fx (dec r.2.2)))→p.txt.length≤1200000:=λk=>acZ (ahO ho gr) aA _ _ _ _ (hq k);unfold amN;split
 ·exact acZ (ahO ho gr) aA _ _ _ _ (hq _)
 split
 ·exact asS (hw _)
 exact acZ (ahO ho gr) aA _ _ _ _ (hw _)
theorem bhB(l:List ItN)(gr:Bool)(sc:Int)(o:Loc)(neg:Bool)(ds:List UInt8)(e:Int)(q:List Pc):(blM l gr sc o neg ds e q).length=q.length:=by
 unfold blM boV;rw[aaX];split
 ·rw[bX,aeJ,apG]
 rw[aeJ,apG]
theorem beE(l:List ItN)(gr:Bool)(o:Loc)(r:(Bool×List UInt8×Int)×Nat×Nat)(q:List Pc):(amN l gr o r q).length=q.length:=by
 unfold amN;split
 ·rw[aaX,bX]
 split
 ·rw[aqA,aaX,bX]
 rw[aaX,aaX,bX]
theorem blQ(h1:1≤(aeV l).length)(h4:(aeV l).length≤4):1≤aiQ l∧aiQ l≤9999:=by
 unfold aiQ;rcases(by omega:(aeV l).length=1∨(aeV l).length=2∨(aeV l).length=3∨(aeV l).length=4)with q|q|q|q<;>rw[q]<;>decide
theorem avR(ho:o.ok){s:SecN}(hl:s.items.length≤100)(hi:s.items.all aeA=true)(hk:yT x<3):(aaB o s x).1.length=s.items.length∧(adM (aaB o s x).1).length≤200000000:=by
 have hlay:=anS ho hi (m:=1200000) aC;have hka:yT (abC x)<3:=by rw[akA];exact hk
 have key:(aaB o s x).1.length=s.items.length∧∀p,p∈(aaB o s x).1→p.txt.length≤1200000:=by
  unfold aaB;split
  ·exact⟨by rw[aiA,bR],aiX (bK (aqM ho hk) aC) hlay⟩
  split
  ·exact⟨by rw[aiA,bR],aiX (bK (aqM ho hka) aC) hlay⟩
  split
  ·rename_i q
   obtain⟨_,_,h3,h4,_⟩:=akK q;exact⟨by rw[bhB,bR],ayP ho aA aA (acJ _) (arV hka) hlay⟩
  split
  ·rename_i q
   obtain⟨_,_,_,h4,h5,_⟩:=anB q;exact⟨by rw[beE,bR],auQ ho (blQ h4 h5) hlay⟩
  exact⟨by rw[bR],hlay⟩
 refine⟨key.1,?_⟩;have:=amX key.2;rw[key.1]at this;exact bK this (bK (bC _ hl) aC)
section
open Go Go.RowKit
set_option maxRecDepth 100000
theorem bfL(x:Nat)(hx:x<18446744073709551616)(hk:yT x<3):Fn 34 [.int .u64 (x:Int)] (.int .u64 ((abC x:Nat):Int)):=by
 intro H;refine .of_body func34 rfl ntmps34 results34 rfl ?_;iterate 9 refine AM ?_
 refine .cl rfl C31 (evs1 rfl) (acK x hx _) ?_;iterate 3 refine AX ?_
 refine .cx rfl (λhc5=>?_) (λhc5=>?_)
 ·omega
 iterate 5 refine AX ?_
 refine .p rfl (apC (tm rfl) (yQ 9223372036854775808) aB aA) ?_;iterate 5 refine AX ?_
 refine⟨?_,rfl⟩;unfold abC;rw[←biE hx];rfl
theorem aaL(p:List SecN)(tp:Tail)(hs:∀s,s∈p→s.items.length≤1000)(x:Nat)(hx:x<18446744073709551616)(o:Loc)(ho:o.ok)(hs2:o.second=2∨o.second=3)(H:Heap):ACall prog 12 [.agg [aeK p tp],.int .u64 (x:Int),pL o (szA o)] H (λy H'=>y= .tuple [.str (yR o p x).1,.int .i64 (yR o p x).2]∧H'=H):=by
 refine ACall.of_body func12 rfl ntmps12 results12 rfl ?_;iterate 13 refine AX ?_
 refine .cl rfl call30 (evs1 rfl) (ajF p tp hs _) ?_;iterate 4 refine AX ?_
 refine AWP.cx rfl (λhc15=>?_) (λhc15=>?_)
 ·iterate 10 refine AX ?_
  refine⟨?_,rfl⟩;unfold yR;rw[aM (by simpa using hc15)];rfl
 have hr:qL p=true:=by simpa using hc15
 obtain⟨hp1,hp4⟩:=adR hr;obtain⟨hl1,hl2,hl3⟩:=ahD hr (avU hp1 x);iterate 3 refine AX ?_
 refine .cl rfl C31 (evs1 rfl) (acK x hx _) ?_;iterate 4 refine AX ?_
 refine AWP.cx rfl (λhc19=>?_) (λhc19=>?_)
 ·iterate 10 refine AX ?_
  refine⟨?_,rfl⟩;unfold yR;rw[aL (by rw[hr];simp),aJ];rfl
 have hk:yT x<3:=by omega
 have hka:yT (abC x)<3:=by rw[akA];exact hk
 have hax:=amF x;obtain⟨hq1,hq2⟩:=avR ho hl1 hl2 hk;have hnt:yR o p x=((if(aaB o (atF p x) x).2=true∧x/9223372036854775808=1∧p.length=1 then o.minus else [])++adM (aaB o (atF p x) x).1,0):=by unfold yR;rw[aL (by rw[hr];simp),aI]
 have hsec:=aoL p tp ⟨hp1,hp4⟩ x hx;generalize atF p x=z at *;obtain⟨l,gr,sc⟩:=z;have hl1:l.length≤100:=hl1;have hq1:(aaB o ⟨l,gr,sc⟩ x).1.length=l.length:=hq1;iterate 4 refine AX ?_
 refine AWP.draw [(0,true),(1,true),(2,true),(3,true),(4,false),(5,true)] rfl aE ?_;iterate 2 refine AX ?_
 refine APlan.f rfl rfl (λ_=>zE call33 (evs2 rfl rfl) (hsec _)) ?_;refine AX ?_;refine .s rfl rfl (zE call32 (evs2 rfl rfl) (anE l gr sc o aA _)) ?_;rintro _ _ ⟨b,rfl,hb,rfl⟩;iterate 6 refine AX ?_
 refine .cl rfl call34 (evs1 rfl) (bfL x hx hk _) ?_;iterate 8 refine AX ?_
 refine AWP.meet (λenv H2=>env=[(1,.int .u64 (x:Int)),(3,.iptr [aeK p tp]),(5,.iptr (pL o (szA o)).cells),(8,.iptr (shC l gr sc o b l.length)),(10,.bool (aaB o ⟨l,gr,sc⟩ x).2)]∧H2=H.set b (pcR (aaB o ⟨l,gr,sc⟩ x).1)) ?_ ?_
 ·iterate 4 refine AX ?_
  refine .p rfl (zA U89 rfl Z52 (tm rfl)) ?_;refine AX ?_;refine .cl rfl call35 (evs1 rfl) (agV l gr sc _ aA _) ?_;iterate 9 refine AX ?_
  refine AWP.cx rfl (λhc35=>?_) (λhc35=>?_)
  ·iterate 4 refine AX ?_
   refine .cl rfl call37 (evs2 rfl rfl) (aiE o ho _ x hx _) (.s rfl (zE call36 (.cons (tm rfl) (.cons zG (evs1 rfl))) (aiM l gr sc o b l.length (l.map (acV o)) (by rw[bR]) rfl aA 8 _ _ (oS _ _ _))) ?_);rintro _ _ rfl;rw[sS];iterate 3 refine AX ?_
   refine Meets.mk (M:=λenv H2=>env=[(1,.int .u64 (x:Int)),(3,.iptr [aeK p tp]),(5,.iptr (pL o (szA o)).cells),(8,.iptr (shC l gr sc o b l.length)),(10,.bool (aaB o ⟨l,gr,sc⟩ x).2)]∧H2=H.set b (pcR (aaB o ⟨l,gr,sc⟩ x).1)) ⟨rfl,by unfold aaB;rw[aM (show zX ⟨l,gr,sc⟩=6 by omega)]<;>rfl⟩ (zJ rfl (zJ rfl (zJ rfl (zJ rfl (yD rfl ((by unfold aaB;rw[aM (show zX ⟨l,gr,sc⟩=6 by omega)]<;>rfl)) yF))))) (hRa _)
  iterate 6 refine AX ?_
  refine AWP.cx rfl (λhc42=>?_) (λhc42=>?_)
  ·iterate 4 refine AX ?_
   refine .cl rfl call37 (evs2 rfl rfl) (aiE o ho _ (abC x) hax _) ?_;iterate 7 refine AX ?_
   refine .s rfl (zE call36 (.cons (tm rfl) (.cons zG (evs1 rfl))) (aiM l gr sc o b l.length (l.map (acV o)) (by rw[bR]) rfl aA 7 _ _ (oS _ _ _))) ?_;rintro _ _ rfl;rw[sS];iterate 9 refine AX ?_
   refine Meets.mk (M:=λenv H2=>env=[(1,.int .u64 (x:Int)),(3,.iptr [aeK p tp]),(5,.iptr (pL o (szA o)).cells),(8,.iptr (shC l gr sc o b l.length)),(10,.bool (aaB o ⟨l,gr,sc⟩ x).2)]∧H2=H.set b (pcR (aaB o ⟨l,gr,sc⟩ x).1)) ⟨rfl,by unfold aaB;rw[aL (show¬zX ⟨l,gr,sc⟩=6 by omega),aM (show zX ⟨l,gr,sc⟩=5 by omega)]<;>rfl⟩ (zJ rfl (zJ rfl (zJ rfl (zJ rfl (yD rfl ((by unfold aaB;rw[aL (show¬zX ⟨l,gr,sc⟩=6 by omega),aM (show zX ⟨l,gr,sc⟩=5 by omega)];exact congrArg AV.bool decide_not.symm)) yF))))) (hRa _)
  refine AWP.seqToL [(52,.bool (decide (zX ⟨l,gr,sc⟩=2∨zX ⟨l,gr,sc⟩=3)))] [1,3,5,6,7,8,9,10,34] ?_ ?_
  ·iterate 6 refine AX ?_
   refine AWP.cx rfl (λhc52=>?_) (λhc52=>?_)
   ·refine AX ?_;exact⟨rfl,(yD rfl (by exact congrArg AV.bool (aN.2 aA)) sX),rfl⟩
   iterate 4 refine AX ?_
   exact⟨rfl,(yD rfl (by exact congrArg AV.bool (aN.2 aA)) sX),rfl⟩
  refine AWP.sub [(52,_),(1,_),(3,_),(5,_),(6,_),(7,_),(8,_),(9,_),(10,_),(34,_)] sX ?_;refine AWP.cx rfl (λhc52=>?_) (λhc52=>?_)
  ·have hsh:zX ⟨l,gr,sc⟩=2∨zX ⟨l,gr,sc⟩=3:=by omega
   obtain⟨_,_,hs3,hs4,_⟩:=akK hsh;obtain⟨_,hn2,hn3⟩:=bdB hsh;have hn2:(aiY l).length=0→zW l [3,5]<zW l [5]:=λq=>(hn2 q).1;have hn3:zW l [5]<l.length→aeY l (zW l [5]) l.length≠[]:=λq=>(hn3 q).1;have hs3:0≤sc:=hs3;have hs4:sc≤9:=hs4;have hfine:=arV hka;have hc5:=qZ l [5];have hdr:=acJ (abC x);iterate 3 refine AX ?_
   refine .cl rfl call38 (evs1 rfl) (amT (abC x) hax _) ?_;iterate 3 refine AX ?_
   refine .al zr61 (λb12 hb12=>?_);iterate 4 refine AX ?_
   refine AWP.frz (t:=12) rfl (hb12) ?_;iterate 3 refine AX ?_
   refine .s rfl (zE call39 (evs2 rfl rfl) (arI l gr sc o b l.length (l.map (acV o)) ho hs2 aA aA rfl (by rw[bR]) (agY (abC x)).1.1 (agY (abC x)).1.2.1 (agY (abC x)).1.2.2 hdr hfine (λq=>by have:=hn2 q;omega) hn3 _ (oS _ _ _))) ?_;rintro _ _ ⟨rfl,hH⟩;obtain rfl:=hH;rw[sS];iterate 4 refine AX ?_
   refine Meets.mk (M:=λenv H2=>env=[(1,.int .u64 (x:Int)),(3,.iptr [aeK p tp]),(5,.iptr (pL o (szA o)).cells),(8,.iptr (shC l gr sc o b l.length)),(10,.bool (aaB o ⟨l,gr,sc⟩ x).2)]∧H2=H.set b (pcR (aaB o ⟨l,gr,sc⟩ x).1)) ⟨rfl,by unfold aaB;rw[aL (show¬zX ⟨l,gr,sc⟩=6 by omega),aL (show¬zX ⟨l,gr,sc⟩=5 by omega),aM (show zX ⟨l,gr,sc⟩=2∨zX ⟨l,gr,sc⟩=3 by omega)]<;>rfl⟩ (zJ rfl (zJ rfl (zJ rfl (zJ rfl (yD rfl ((by unfold aaB;rw[aL (show¬zX ⟨l,gr,sc⟩=6 by omega),aL (show¬zX ⟨l,gr,sc⟩=5 by omega),aM (show zX ⟨l,gr,sc⟩=2∨zX ⟨l,gr,sc⟩=3 by omega)]<;>rfl)) yF))))) (hRa _)
  iterate 6 refine AX ?_
  refine AWP.cx rfl (λhc63=>?_) (λhc63=>?_)
  ·obtain⟨_,_,_,hf4,hf5,_⟩:=anB (s:=⟨l,gr,sc⟩) aA;iterate 3 refine AX ?_
   refine .s rfl (zE call40 (evs2 rfl rfl) (amM l gr sc o b l.length (l.map (acV o)) ho hs2 aA rfl (by rw[bR]) (abC x) hax hka (qZ l [6]) hf4 hf5 _ (oS _ _ _))) ?_;rintro _ _ ⟨rfl,hH⟩;obtain rfl:=hH;rw[sS];iterate 4 refine AX ?_
   refine Meets.mk (M:=λenv H2=>env=[(1,.int .u64 (x:Int)),(3,.iptr [aeK p tp]),(5,.iptr (pL o (szA o)).cells),(8,.iptr (shC l gr sc o b l.length)),(10,.bool (aaB o ⟨l,gr,sc⟩ x).2)]∧H2=H.set b (pcR (aaB o ⟨l,gr,sc⟩ x).1)) ⟨rfl,by unfold aaB;rw[aL (show¬zX ⟨l,gr,sc⟩=6 by omega),aL (show¬zX ⟨l,gr,sc⟩=5 by omega),aL (show¬(zX ⟨l,gr,sc⟩=2∨zX ⟨l,gr,sc⟩=3) by omega),aM (show zX ⟨l,gr,sc⟩=4 by omega)]<;>rfl⟩ (zJ rfl (zJ rfl (zJ rfl (zJ rfl (yD rfl ((by unfold aaB;rw[aL (show¬zX ⟨l,gr,sc⟩=6 by omega),aL (show¬zX ⟨l,gr,sc⟩=5 by omega),aL (show¬(zX ⟨l,gr,sc⟩=2∨zX ⟨l,gr,sc⟩=3) by omega),aM (show zX ⟨l,gr,sc⟩=4 by omega)]<;>rfl)) yF))))) (hRa _)
  iterate 3 refine AX ?_
  refine Meets.mk (M:=λenv H2=>env=[(1,.int .u64 (x:Int)),(3,.iptr [aeK p tp]),(5,.iptr (pL o (szA o)).cells),(8,.iptr (shC l gr sc o b l.length)),(10,.bool (aaB o ⟨l,gr,sc⟩ x).2)]∧H2=H.set b (pcR (aaB o ⟨l,gr,sc⟩ x).1)) ⟨rfl,by unfold aaB;rw[aL (show¬zX ⟨l,gr,sc⟩=6 by omega),aL (show¬zX ⟨l,gr,sc⟩=5 by omega),aL (show¬(zX ⟨l,gr,sc⟩=2∨zX ⟨l,gr,sc⟩=3) by omega),aL (show¬zX ⟨l,gr,sc⟩=4 by omega)]<;>rfl⟩ (zJ rfl (zJ rfl (zJ rfl (zJ rfl (yD rfl ((by unfold aaB;rw[aL (show¬zX ⟨l,gr,sc⟩=6 by omega),aL (show¬zX ⟨l,gr,sc⟩=5 by omega),aL (show¬(zX ⟨l,gr,sc⟩=2∨zX ⟨l,gr,sc⟩=3) by omega),aL (show¬zX ⟨l,gr,sc⟩=4 by omega)]<;>rfl)) yF))))) (hRa _)
 rintro _ _ ⟨rfl,rfl⟩;generalize aaB o ⟨l,gr,sc⟩ x=S at *;iterate 3 refine AX ?_
 refine .cl rfl call41 (evs1 rfl) (akN l gr sc o b l.length S.1 hq1 aA aA _ (oS _ _ _)) ?_;iterate 4 refine AX ?_
 refine AWP.seqTo 81 (.bool (decide (S.2=true∧x/9223372036854775808=1∧p.length=1))) [5,14] ?_ ?_
 ·iterate 3 refine AX ?_
  refine zB (t:=71) rfl (λhg71=>?_) (λhg71=>?_)
  ·have hh71:=hg71;try simp only[aK]at hh71
   iterate 5 refine AM ?_
   refine zB (t:=76) rfl (λhg76=>?_) (λhg76=>?_)
   ·have hh76:=hg76;try simp only[aK]at hh76
    refine .gp rfl rfl rfl aB (zA U24 rfl Z22 (tm rfl)) ?_;iterate 5 refine AX ?_
    exact⟨rfl,zP rfl (by(refine Eq.symm ?_;first|(refine aN.2 ⟨λq=>by omega,λq=>⟨by assumption,by omega,by omega⟩⟩)|(refine aO λq=>?_;obtain⟨q1,q2,q3⟩:=q;first|omega|simp_all))) sX,rfl⟩
   have hh76:=hg76;try simp only[aK]at hh76
   iterate 6 refine AX ?_
   exact⟨rfl,zP rfl (by(refine Eq.symm ?_;first|(refine aN.2 ⟨λq=>by omega,λq=>⟨by assumption,by omega,by omega⟩⟩)|(refine aO λq=>?_;obtain⟨q1,q2,q3⟩:=q;first|omega|simp_all))) sX,rfl⟩
  have hh71:=hg71;try simp only[aK]at hh71
  iterate 11 refine AX ?_
  exact⟨rfl,zP rfl (by(refine Eq.symm ?_;first|(refine aN.2 ⟨λq=>by omega,λq=>⟨by assumption,by omega,by omega⟩⟩)|(refine aO λq=>?_;obtain⟨q1,q2,q3⟩:=q;first|omega|simp_all))) sX,rfl⟩
 refine AWP.sub [(81,_),(5,_),(14,_)] sX ?_;refine AWP.cx rfl (λhc81=>?_) (λhc81=>?_)
 ·refine AX ?_;refine .p rfl (zA U32 rfl Z9 (tm rfl)) ?_;iterate 2 refine AX ?_
  refine .p rfl (zU (tm rfl) (tm rfl) (by have:=ho.2.2.1;rw[zT];omega)) ?_;iterate 11 refine AX ?_
  refine Ret.go (.cons (.tmp _ _ rfl) (.cons (.tmp _ _ rfl) .nil)) H (Heap.le_set hb _) ?_;refine⟨?_,rfl⟩;rw[hnt,aM hc81];rfl
 iterate 10 refine AX ?_
 refine Ret.go (.cons (.tmp _ _ rfl) (.cons (.tmp _ _ rfl) .nil)) H (Heap.le_set hb _) ?_;refine⟨?_,rfl⟩;rw[hnt,aL hc81,dL];rfl
end
end Go.Proofs.YteedncdcbgplfaaGreatDoor
