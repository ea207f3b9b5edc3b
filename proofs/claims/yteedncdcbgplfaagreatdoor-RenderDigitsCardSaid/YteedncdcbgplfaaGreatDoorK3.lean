import Derived.Test.YteedncdcbgplfaaGreatDoorK2
set_option maxHeartbeats 1000000
namespace Go.Proofs.YteedncdcbgplfaaGreatDoor
open Go.Proofs.Tryz
open Go Go.RowKit
variable{x:Nat}{l:List ItN}{o:Loc}
section
set_option maxRecDepth 100000
def allD:List UInt8:=[48,49,50,51,52,53,54,55,56,57]
theorem cdA{b:UInt8}(h:isD b):allD.contains b=true:=by
 have h1:b=UInt8.ofNat b.toNat:=by simp
 obtain⟨h2,h3⟩:=h;rw[h1];have:∀k,48≤k→k≤57→allD.contains (UInt8.ofNat k)=true:=by
  intro k a b;have:k=48∨k=49∨k=50∨k=51∨k=52∨k=53∨k=54∨k=55∨k=56∨k=57:=by omega
  rcases this with rfl|rfl|rfl|rfl|rfl|rfl|rfl|rfl|rfl|rfl<;>rfl
 exact this _ h2 h3
theorem azA{α:Type}{l:List α}{q:α→Bool}(h:∀x,x∈l→q x=true):l.dropWhile q=[]:=by
 induction l with
 |nil=>rfl
 |cons x l ih=>rw[eC,aN (h x aF)];exact ih λy hy=>h y (by simp[hy])
theorem bqP{s:List UInt8}(h:Digs s):Lib.trimS s allD=[]:=by
 have h1:s.reverse.dropWhile (allD.contains ·)=[]:=azA λx hx=>cdA (h x (by simpa using hx));show((s.reverse.dropWhile (allD.contains ·)).reverse.dropWhile (allD.contains ·))=[];rw[h1];rfl
theorem arY:∀s:List UInt8,num (s.dropWhile (·==48))=num s
 | []=>rfl
 |c::r=>by
  rw[eC];split
  ·rename_i h
   have h1:c=48:=by simpa using h
   rw[arY r,ajW,h1];simp
  rfl
theorem btT{l:List UInt8}(h:Digs l)(hl:l.length≤2400):num l<BIG:=by
 have h1:=ahK h;obtain⟨a,ha,h3⟩:∃a:Nat,a=2400∧10^a<BIG:=⟨2400,rfl,by unfold BIG;decide+kernel⟩;have h2:10^l.length≤10^a:=bB aC aA;exact bQ h1 (bC h2 (dK h3))
theorem bfT{s p t:List UInt8}{n:Nat}(h:Digs s)(hl:s.length≤2000)(e:s=p++t)(hn:n=min 9 t.length)(ht:0<t.length):t.take n≠[]∧Digs (t.take n)∧(t.take n).length≤18∧10^n<BIG∧num p<BIG∧num p*10^n<BIG∧num p*10^n+num (t.take n)<BIG∧num (p++t.take n)=num p*10^n+num (t.take n)∧s=(p++t.take n)++t.drop n∧num (t.take n)<1000000000∧n≤t.length∧n≤9∧0<n:=by
 have hlen:(t.take n).length=n:=by rw[aV];omega
 have hp:Digs p:=λb hb=>h b (by rw[e];simp[hb]);have htd:Digs t:=λb hb=>h b (by rw[e];simp[hb]);have hps:p.length+t.length≤2000:=by rw[e,aO]at hl;exact hl
 have hq:num (p++t.take n)=num p*10^n+num (t.take n):=by rw[ahL,hlen]
 have hd2:Digs (p++t.take n):=λb hb=>by
  rcases cN.1 hb with h1|h1
  ·exact hp b h1
  exact htd.take n b h1
 have hB:=btT hd2 (by rw[aO,hlen];omega);rw[hq]at hB;have hpB:10^n<BIG:=by
  have h2:10^n≤10^9:=bB aC aA;exact bA h2 (by unfold BIG;decide+kernel)
 have hn9:=ahK (htd.take n);rw[hlen]at hn9;have h9:10^n≤10^9:=bB aC aA;refine⟨λh0=>?_,htd.take n,by omega,hpB,btT hp aA,by omega,hB,hq,by rw[bK,cK];exact e,by omega,by omega,by omega,by omega⟩;rw[h0]at hlen;simp at hlen;omega
def btE(s0:List UInt8)(H:Heap):Nat→Env→Heap→Prop:=λk env H1=>∃p t:List UInt8,s0=p++t∧env=[(0,.str t),(4,qX (num p)),(5,.int .i64 0)]∧H=H1∧k=t.length
theorem atH(s:List UInt8)(hne:s≠[])(hd:Digs s)(hl:s.length≤2000):Fn 105 [.str s] (.tuple [qX (num s),.int .i64 0]):=by
 intro H;have hd0:=hd.dropWhile (·==48);have hl0:(s.dropWhile (·==48)).length≤2000:=bC (eM _).length_le hl;have hnz:=arY s;refine .of_body func105 rfl ntmps105 results105 rfl ?_;iterate 3 refine AM ?_
 iterate 4 refine AX ?_
 refine .seqTo 17 (.bool (false)) [0,2,3] ?_ ?_
 ·iterate 4 refine AX ?_
  refine zD (t:=13) rfl (λhg13=>?_) (λhg13=>?_)
  ·iterate 5 refine AX ?_
   exact⟨rfl,zS rfl (by(simp at hg13;exact absurd hg13 hne)) sX,rfl⟩
  refine AX ?_;refine .gs rfl rfl rfl aB (zB call192 (.cons (tm rfl) (.cons (zO rfl) .nil)) (trimSetA _ aC aC _ _)) ?_;rintro _ _ ⟨rfl,hH⟩;obtain rfl:=hH.symm;iterate 3 refine AX ?_
  exact⟨rfl,zS rfl (by(rw[show Lib.trimS s [48,49,50,51,52,53,54,55,56,57]=[]from bqP hd];rfl)) sX,rfl⟩
 refine .sub [(17,_),(0,_),(2,_),(3,_)] sX ?_;refine .cond_false (tm rfl) aD ?_;iterate 5 refine AX ?_
 refine .cl rfl call108 (.cons (tm rfl) (.cons (zO rfl) .nil)) (trimLeftA 48 aC _ _) ?_;iterate 5 refine AX ?_
 generalize s.dropWhile (·==48)=s0 at *;iterate 6 refine AX ?_
 refine .cx rfl (λhc22=>?_) (λhc22=>?_)
 ·omega
 iterate 9 refine AM ?_
 iterate 5 refine AX ?_
 refine .loopW (btE s0 H) (s0.length) ⟨[],s0,rfl,rfl,rfl,rfl⟩ sX (hRa _) ?_;rintro _ _ _ ⟨p,t,he,rfl,rfl,hk⟩;iterate 8 refine AX ?_
 refine .cx rfl (λhc25=>?_) (λhc25=>?_)
 ·iterate 3 refine AX ?_
  refine .seqToL [(6,.int .i64 ((min 9 t.length:Nat):Int))] [0,4,5] ?_ ?_
  ·iterate 6 refine AX ?_
   exact⟨rfl,(zR rfl (by congr 1;simp only[asK];first|omega|(split<;>omega)) sX),rfl⟩
  refine .sub [(6,_),(0,_),(4,_),(5,_)] sX ?_;generalize hn:min 9 t.length=n;obtain⟨hq1,hq2,hq3,hpB,hB1,hB2,hB3,hnum,hsplit,hn9,hnt,hn99,hn0⟩:=bfT hd0 hl0 he hn.symm aA;iterate 5 refine AX ?_
  refine .cl rfl call102 (evs1 rfl) (atoiA (t.take n) hq1 hq2 hq3 _) ?_;iterate 10 refine AX ?_
  refine .cl rfl C170 (.cons zJ (evs1 rfl)) (atG 10 n aC aC aA hpB _) ?_;iterate 12 refine AX ?_
  refine .cl rfl C106 (evs2 rfl rfl) (mulB _ _ hB1 hpB hB2 _) ?_;iterate 13 refine AX ?_
  refine .cond_true (tm rfl) aD ?_;iterate 4 refine AX ?_
  refine .cl rfl C93 (evs1 rfl) (aeA _ aA _) (.cl rfl call107 (evs2 rfl rfl) (addB _ _ hB3 _) ?_);iterate 14 refine AX ?_
  refine .cond_false (tm rfl) aD ?_;iterate 10 refine AX ?_
  have hdl:(t.drop n).length=t.length-n:=bO;refine Round.mk ⟨p++t.take n,t.drop n,hsplit,rfl,rfl,rfl⟩ (zK rfl (zR rfl (by rw[hnum]) (zK rfl yF))) (hRa _) aA
 iterate 14 refine AX ?_
 refine⟨?_,rfl⟩;have ht:t=[]:=dI.1 aA;rw[ht,bU]at he;rw[←hnz,he];rfl
end
section
open Go Go.RowKit
set_option maxRecDepth 100000
theorem bkD{a:List Nat}{i:Nat}(h:i<a.length):a.getD i 0∈a:=by
 rw[aP,aX h];exact cF _
theorem btX{a:List Nat}{q:Int}{j k:Nat}(hq:q.toNat=j)(h:j<a.length)(hk:a.getD j 0=k):(a.map bxO)[q.toNat]?=some (bxO k):=by rw[hq,←hk];exact bbU h
def clE(l:List ItN)(gr:Bool)(sc:Int)(o:Loc)(b n:Nat)(x:Nat)(H:Heap):Nat→Env→Heap→Prop:=λk env H1=>∃i:Nat,i≤aaB l∧ajC l i=ajC l (aaB l)∧env=[(0,.iptr (shC l gr sc o b n)),(1,.int .u64 (x:Int)),(5,.int .i64 (aaB l:Int)),(6,.int .i64 (i:Int))]∧H=H1∧k=i
def cmR(l:List ItN)(gr:Bool)(sc:Int)(o:Loc)(b n:Nat)(W:List UInt8)(be:List Nat)(a e:Nat)(q:List Pc)(H:Heap):Nat→Env→Heap→Prop:=λk env H1=>∃j:Nat,a≤j∧j≤e+1∧env=[(0,.iptr (shC l gr sc o b n)),(9,afG be .shared),(14,.str W),(19,.int .i64 (j:Int))]∧H1=H.set b (pcR (aqB a j q))∧k=e+1-j
def bvQ(l:List ItN)(gr:Bool)(sc:Int)(o:Loc)(b n:Nat)(r:(Bool×List UInt8×Int)×Nat×Nat)(pcs:List Pc)(H:Heap):Env→Heap→Prop:=λenv H2=>∃nm q3,q3.length=n∧nm.length≤2500∧auB l gr o r pcs=acF l (aaS o gr) nm true false (chA l) q3∧boH l r=(decide (nm≠[])||decide (apJ r.1≠[]))∧env=[(0,.iptr (shC l gr sc o b n)),(8,afG (chA l) .shared),(14,.str (apJ r.1)),(16,.str nm)]∧H2=H.set b (pcR q3)
theorem auA(l:List ItN)(gr:Bool)(sc:Int)(o:Loc)(b n:Nat)(pcs:List Pc)(ho:o.ok)(hs2:o.second=2∨o.second=3)(hl:l.length≤10000)(hnl:n=l.length)(hpn:pcs.length=n)(x:Nat)(hx:x<18446744073709551616)(hkx:yK x<3)(hsl:aaB l≤l.length)(hd1:1≤(aiN l).length)(hd4:(aiN l).length≤4)(H:Heap)(hb:H.objs b=some (pcR pcs)):ACall prog 40 [.iptr (shC l gr sc o b n),.int .u64 (x:Int)] H (λy H'=>y= .bool (boH l (akO x (anZ l)))∧H'=H.set b (pcR (auB l gr o (akO x (anZ l)) pcs))):=by
 have hfl:=cbP l (aaB l);have hmo:1≤anZ l∧anZ l≤9999:=by
  unfold anZ;rcases(by omega:(aiN l).length=1∨(aiN l).length=2∨(aiN l).length=3∨(aiN l).length=4)with q|q|q|q<;>rw[q]<;>decide
 obtain⟨hr1,hr2,hr3,hr4,hr5⟩:=biU x hmo;obtain⟨hr6,hr7⟩:=beX x hmo;obtain⟨ht1,ht2,ht3,ht4⟩:=bqQ x hmo;have hrp:=qU hr1;have hrl:=yX hr1;have hdk:(aiN l).getD 0 0<l.length:=atA (λk hk=>(abI.1 hk).1) hd1;obtain⟨kk,hkk⟩:∃kk,(aiN l).getD 0 0=kk:=⟨_,rfl⟩;rw[hkk]at hdk;have hde:(aiN l).getD ((aiN l).length-1) 0<l.length:=atA (λk hk=>(abI.1 hk).1) aA;obtain⟨ee,hee⟩:∃ee,(aiN l).getD ((aiN l).length-1) 0=ee:=⟨_,rfl⟩;rw[hee]at hde;have hal:(atS l).length≤l.length:=bC (adZ _ _ _) aA;have hnl2:(chA l).length≤l.length:=bC (adZ _ _ _) aA;have hBm:18014398509481984<BIG:=by unfold BIG;decide+kernel
 refine ACall.of_body func40 rfl ntmps40 results40 rfl ?_;iterate 8 refine AX ?_
 refine .e rfl (yJ U30 Z3 V3 rfl zJ (.inl rfl) ⟨rfl,rfl⟩) (.cl rfl C94 (evs2 rfl rfl) (agJ l gr sc o b n aA [6] _ aC _) ?_);iterate 11 refine AX ?_
 refine AWP.loopW (clE l gr sc o b n x H) (aaB l) ⟨aaB l,aZ _,rfl,rfl,rfl,rfl⟩ sX (hRa _) ?_;rintro _ _ _ ⟨i,hi,hfr,rfl,rfl,hk⟩;refine AX ?_;refine AWP.seqTo 38 (.bool (decide (0<i∧abS l (i-1)=2))) [0,1,5,6] ?_ ?_
 ·iterate 4 refine AX ?_
  refine zD (t:=26) rfl (λhg26=>?_) (λhg26=>?_)
  ·have hh26:=hg26;try simp only[aL]at hh26
   iterate 2 refine AX ?_
   refine .gp rfl rfl rfl aB (zA U89 rfl Z52 (tm rfl)) (.gp rfl rfl rfl aB (zA U52 rfl Z50 (tm rfl)) ?_);iterate 2 refine AX ?_
   refine .gp rfl rfl rfl aB (.say (b:=.int .i64 ((i-1:Nat):Int)) (by congr 1;omega) (qK (tm rfl) zJ aA)) ?_;refine AX ?_;refine .gp rfl rfl rfl aB (zA U57 rfl Z3 (tm rfl)) ?_;iterate 4 refine AX ?_
   exact⟨rfl,zS rfl (by(refine Eq.symm ?_;first|exact aQ.2 ⟨λq=>(aaF (i:=i-1) aA).symm.trans q.2,λq=>⟨by omega,(aaF (i:=i-1) aA).trans q⟩⟩|exact aS aA)) sX,rfl⟩
  have hh26:=hg26;try simp only[aL]at hh26
  iterate 13 refine AX ?_
  exact⟨rfl,zS rfl (by(refine Eq.symm ?_;first|exact aQ.2 ⟨λq=>(aaF (i:=i-1) aA).symm.trans q.2,λq=>⟨by omega,(aaF (i:=i-1) aA).trans q⟩⟩|exact aS aA)) sX,rfl⟩
 refine AWP.sub [(38,_),(0,_),(1,_),(5,_),(6,_)] sX ?_;refine AWP.cond (tm rfl) (λhc38=>?_) (λhc38=>?_)
 ·try simp only[aL]at hc38
  have hfn:=bvM hc38;iterate 5 refine AX ?_
  refine .p rfl (.say (b:=.int .i64 ((i-1:Nat):Int)) (by congr 1;omega) (qK (tm rfl) zJ aA)) ?_;iterate 4 refine AX ?_
  refine Round.mk (J:=clE l gr sc o b n x H) ⟨i-1,by omega,hfn.trans hfr,rfl,rfl,rfl⟩ sX (hRa _) aA
 try simp only[aL]at hc38
 have hfe:=cbO hc38;rw[hfr]at hfe;obtain rfl:=hfe;iterate 6 refine AX ?_
 refine AWP.draw [(0,true),(1,true),(2,true),(3,true),(4,true),(5,true),(6,true),(7,true),(8,true),(9,true),(10,true),(11,true),(12,true),(13,true),(14,true),(15,true),(16,true),(17,true),(18,true)] rfl aE ?_;iterate 2 refine AX ?_
 refine APlan.f rfl rfl (λ_=>zB C95 (.cons (tm rfl) (.cons zJ (evs1 rfl))) (adO l gr sc o b n aA 0 (ajC l (aaB l)) (Nat.zero_le _) aA _)) ?_;iterate 3 refine AX ?_
 refine APlan.f rfl rfl (λ_=>zB C95 (evs3 rfl rfl rfl) (adO l gr sc o b n aA (ajC l (aaB l)) (aaB l) aA hsl _)) ?_;iterate 4 refine AX ?_
 refine .p rfl rfl (zA U89 rfl Z52 (tm rfl)) (.p rfl rfl (zA U52 rfl Z50 (tm rfl)) ?_);iterate 2 refine AX ?_
 refine APlan.f rfl rfl (λ_=>zB C95 (evs3 rfl rfl rfl) (adO l gr sc o b n aA (aaB l) l.length hsl (aZ _) _)) ?_;iterate 6 refine AX ?_
 rw[show agW l 0 (ajC l (aaB l))=atS l from rfl,show agW l (ajC l (aaB l)) (aaB l)=chA l from rfl,show agW l (aaB l) l.length=aiN l from rfl];iterate 3 refine AX ?_
 refine .cl rfl C103 (.cons (zO rfl) (evs1 rfl)) (repeatZ 57 _ (aiN l).length (by simp[aiN]) aA _) (.cl rfl call102 (evs1 rfl) (atoiA (List.replicate (aiN l).length 57) (by intro q;rw[List.replicate_eq_nil_iff]at q;omega) (btW _) (by rw[bE];omega) _) ?_);rw[show num (List.replicate (aiN l).length 57)=anZ l from btR _];iterate 11 refine AX ?_
 refine .cl rfl call104 (evs2 rfl rfl) (bhL x (anZ l) hx hkx hmo _) ?_;generalize akO x (anZ l)=r at *;iterate 3 refine AX ?_
 refine .al zr174 (λb12 hb12=>?_);refine .e0 (zL Z174 (tm rfl) (tm rfl) rfl rfl (.inr ⟨_,rfl⟩) (oS _ _ _) (lB rfl)) ?_;try first|rw[sS]|rw[sU aB]
 iterate 3 refine AX ?_
 refine AWP.frz (t:=12) rfl (hb12) ?_;iterate 2 refine AX ?_
 refine .p rfl (zA U174 rfl Z61 (tm rfl)) ?_;refine AX ?_;refine .cl rfl call99 (.cons (tm rfl) (.cons zJ .nil)) (aoO r.1.1 r.1.2.1 r.1.2.2 (qC hr1) aA aA 0 aA _) ?_;rw[show(adC r.1.2.1 (zU r.1.2.1 r.1.2.2) 0).1=apJ r.1 from rfl];iterate 8 refine AX ?_
 refine AWP.draw [(0,true),(1,true),(2,true),(3,true),(4,true),(5,true),(6,true),(7,true),(8,true),(9,true),(10,true),(11,true),(12,true),(13,false)] rfl aE ?_;iterate 2 refine AX ?_
 refine .p rfl rfl (zA U89 rfl Z87 (tm rfl)) ?_;iterate 2 refine AX ?_
 refine .p rfl rfl (aaY U30 Z3 (tm rfl) zJ aA (btY hd1 hkk)) ?_;refine AX ?_;refine .p rfl rfl (zA U174 rfl Z3 (tm rfl)) (.p rfl rfl (zW G3 (tm rfl)) ?_);refine APlan.f rfl rfl (λ_=>zB C90 (evs1 rfl) (itoaA r.2.2 aA _)) ?_;refine .p rfl rfl (yY [(0,1)] U145 V145 (zr145) rfl (pl145 _ U145) (.cons (tm rfl) (.inl rfl) .nil) rfl) (.p rfl rfl (aaT U145 rfl (tm rfl)) (.p rfl rfl (qL U87 Z147 (tm rfl) (tm rfl) aA aA) (.s0 rfl (aaN Pc.av (.fx (dec r.2.2)) kk Z147 (tm rfl) (tm rfl) rfl rfl hb aA aA) ?_)));rintro _ _ ⟨rfl,hH⟩;obtain rfl:=hH.symm;iterate 4 refine AX ?_
 refine .p rfl (zA U174 rfl Z3 (tm rfl)) ?_;refine AX ?_;refine .cl rfl C90 (evs1 rfl) (itoaA r.2.1 aA _) ?_;iterate 3 refine AX ?_
 refine AWP.meet (bvQ l gr sc o b n r pcs H) ?_ ?_
 ·iterate 7 refine AX ?_
  refine AWP.cond (tm rfl) (λhc94=>?_) (λhc94=>?_)
  ·try simp only[aL]at hc94
   iterate 3 refine AX ?_
   refine .p rfl (zY (zO rfl) (tm rfl) (by simp only[zQ,aW,bG]at *;omega)) (.cl rfl call105 (evs1 rfl) (atH (48::apJ r.1) aF hr6 aG _) ?_);iterate 10 refine AX ?_
   refine .p rfl (zA U174 rfl Z3 (tm rfl)) ?_;iterate 2 refine AX ?_
   refine .cl rfl C93 (evs1 rfl) (aeA r.2.2 aA _) (.cl rfl C106 (evs2 rfl rfl) (mulB (num (48::apJ r.1)) r.2.2 ht1 aA ht2 _) ?_);iterate 9 refine AX ?_
   refine .p rfl (zA U174 rfl Z3 (tm rfl)) ?_;iterate 2 refine AX ?_
   refine .cl rfl C93 (evs1 rfl) (aeA r.2.1 aA _) (.cl rfl call107 (evs2 rfl rfl) (addB (num (48::apJ r.1)*r.2.2) r.2.1 ht3 _) ?_);iterate 8 refine AX ?_
   refine .cl rfl call109 (evs1 rfl) (apI (bxY r) ht3 _) (.cl rfl call108 (.cons (tm rfl) (.cons (zO rfl) .nil)) (trimLeftA 48 aC _ _) ?_);rw[ccC];iterate 3 refine AX ?_
   refine Meets.mk (M:=bvQ l gr sc o b n r pcs H) ⟨ciR (bxY r),(pcs.set kk (.fx (dec r.2.2))),by rw[cP];exact hpn,ht4,by unfold auB;rw[aK,hkk],by unfold boH;rw[aK],rfl,rfl⟩ sX (hRa _)
  try simp only[aL]at hc94
  iterate 5 refine AX ?_
  refine .s rfl (zB call101 (evs3 rfl rfl rfl) (aiY l gr sc o b n (apJ r.1) (atS l) (pcs.set kk (.fx (dec r.2.2))) ho hs2 aA hnl (by simp only[cP];exact hpn) (λk hk=>by have:=(abI.1 hk).1;omega) aA aA _ (oS _ _ _))) ?_;rintro _ _ hH;obtain rfl:=hH;rw[sS];iterate 4 refine AX ?_
  refine .p rfl (zA U174 rfl Z3 (tm rfl)) ?_;iterate 4 refine AX ?_
  refine AWP.cond (tm rfl) (λhc128=>?_) (λhc128=>?_)
  ·try simp only[aL]at hc128
   iterate 2 refine AX ?_
   have hak:(atS l).getD ((atS l).length-1) 0<l.length:=atA (λk hk=>by have:=(abI.1 hk).1;omega) aA;obtain⟨aa,haa⟩:∃aa,(atS l).getD ((atS l).length-1) 0=aa:=⟨_,rfl⟩;have hae:aa<ee:=by
    have h1:=abI.1 (show(atS l).getD ((atS l).length-1) 0∈agW l 0 (ajC l (aaB l))from bkD (a:=atS l) aA);have h2:=abI.1 (show(aiN l).getD ((aiN l).length-1) 0∈agW l (aaB l) l.length from bkD (a:=aiN l) aA);rw[haa]at h1;rw[hee]at h2;omega
   rw[haa]at hak;iterate 5 refine AX ?_
   refine .p rfl (aaY U30 Z3 (tm rfl) (tm rfl) aA (btX (j:=(atS l).length-1) aA aA haa)) ?_;iterate 6 refine AX ?_
   refine AWP.loopW (cmR l gr sc o b n (apJ r.1) (aiN l) (aa+1) ee (acF l (aaS o gr) (apJ r.1) true false (atS l) (pcs.set kk (.fx (dec r.2.2)))) H) (ee+1-(aa+1)) ⟨aa+1,aZ _,by omega,rfl,by rw[cfE],rfl⟩ sX (hRa _) ?_;rintro _ _ _ ⟨j,hj1,hj2,rfl,rfl,hk⟩;iterate 8 refine AX ?_
   refine .p rfl (aaY U30 Z3 (tm rfl) (tm rfl) aA (btX (j:=(aiN l).length-1) aA aA hee)) ?_;iterate 4 refine AX ?_
   refine AWP.cond (tm rfl) (λhc143=>?_) (λhc143=>?_)
   ·try simp only[aL]at hc143
    iterate 7 refine AX ?_
    refine .p rfl (zA U89 rfl Z87 (tm rfl)) (.p rfl (zW isAgg87 (tm rfl)) (.mv rfl rfl (.p rfl (yY [(0,1)] U145 V145 (zr145) rfl (pl145 _ U145) .nil rfl) (.p rfl (aaT U145 rfl (tm rfl)) (.p rfl (qL U87 Z147 (tm rfl) (tm rfl) aA aA) (.e0 (aaN Pc.av (.fx []) j Z147 (tm rfl) (tm rfl) rfl rfl (oS _ _ _) aA (by rw[azT,acU,cP];omega)) ?_))))));rw[sS];iterate 9 refine AX ?_
    refine Round.mk (J:=cmR l gr sc o b n (apJ r.1) (aiN l) (aa+1) ee (acF l (aaS o gr) (apJ r.1) true false (atS l) (pcs.set kk (.fx (dec r.2.2)))) H) ⟨j+1,by omega,by omega,rfl,by rw[cfD _ hj1];rfl,rfl⟩ sX (hRa _) aA
   try simp only[aL]at hc143
   iterate 14 refine AX ?_
   refine Ret.go (.cons (.tmp _ _ rfl) .nil) _ (hRa _) ?_;have hje:j=ee+1:=by omega
   subst hje;refine⟨?_,?_⟩
   ·unfold boH;rw[aJ,aK,decide_not];rfl
   unfold auB;rw[aJ,aK,hkk,hee,haa]
  try simp only[aL]at hc128
  iterate 2 refine AX ?_
  refine Meets.mk (M:=bvQ l gr sc o b n r pcs H) ⟨dec r.2.1,(acF l (aaS o gr) (apJ r.1) true false (atS l) (pcs.set kk (.fx (dec r.2.2)))),by rw[acU,cP];exact hpn,by have:=asU (n:=r.2.1) aA;omega,by unfold auB;rw[aJ,aJ,hkk],by have:=bgW r.2.1;unfold boH;rw[aJ,aJ,aU (p:=dec r.2.1≠[]) (bV.1 this),Bool.true_or],rfl,rfl⟩ sX (hRa _)
 rintro _ _ ⟨nm,q3,hq3,hnm,hQ,hB,rfl,rfl⟩;iterate 5 refine AX ?_
 refine .s rfl (zB call101 (evs3 rfl rfl rfl) (aiY l gr sc o b n nm (chA l) q3 ho hs2 aA hnl hq3 (λk hk=>by have:=(abI.1 hk).1;omega) aA aA _ (oS _ _ _))) ?_;rintro _ _ hH;obtain rfl:=hH;rw[sS];iterate 7 refine AX ?_
 refine zD (t:=162) rfl (λhg162=>?_) (λhg162=>?_)
 ·have hh162:=hg162;try simp only[aL]at hh162
  iterate 7 refine AX ?_
  refine Ret.go (.cons (.tmp _ _ rfl) .nil) _ (hRa _) ?_;refine⟨?_,by rw[hQ]⟩;rw[hB];show AV.bool _=_;refine congrArg AV.bool ?_
  simp_all
 have hh162:=hg162;try simp only[aL]at hh162
 iterate 7 refine AX ?_
 refine Ret.go (.cons (.tmp _ _ rfl) .nil) _ (hRa _) ?_;refine⟨?_,by rw[hQ]⟩;rw[hB];show AV.bool _=_;refine congrArg AV.bool ?_
 simp_all
end
theorem ccV{a:Nat}(h:a<18446744073709551616):a-(a&&&9223372036854775808)=a%9223372036854775808:=by
 have e:a&&&9223372036854775808=if a.testBit 63 then 9223372036854775808 else 0:=by
  apply Nat.eq_of_testBit_eq;intro i;rw[Nat.testBit_and,show(9223372036854775808:Nat)=2^63 by decide,Nat.testBit_two_pow];by_cases hi:63=i
  ·subst hi;cases a.testBit 63
   ·simp
   simp only[decide_true,Bool.and_self,if_true];rw[Nat.testBit_two_pow];simp
  cases a.testBit 63
  ·simp[hi]
  simp only[hi,decide_false,Bool.and_false,if_true];rw[Nat.testBit_two_pow];simp[hi]
 rw[e,Nat.testBit_eq_decide_div_mod_eq];have h2:(2:Nat)^63=9223372036854775808:=by decide
 rw[h2];split<;>simp_all<;>omega
theorem bdE(x:Nat):abZ x<18446744073709551616:=by unfold abZ;omega
theorem akJ(x:Nat):yK (abZ x)=yK x:=by
 have h1:abZ x/4503599627370496%2048=x/4503599627370496%2048:=by unfold abZ;omega
 have h2:abZ x%4503599627370496=x%4503599627370496:=by unfold abZ;omega
 unfold yK;rw[h1,h2]
theorem cjC(x:Nat):alN (abZ x)=false:=by unfold alN abZ;exact aS aA
theorem byQ{p:List SecN}(h:1≤p.length)(x:Nat):blV p x∈p:=by
 unfold blV;split
 ·rw[akT (show 1<p.length by omega)];exact cF _
 split
 ·rw[akT (show 2<p.length by omega)];exact cF _
 rw[akT (show 0<p.length by omega)];exact cF _
theorem ccB(l:List ItN)(a k:Nat)(h:a+k≤l.length):(agW l a (a+k)).length=qM ((l.drop a).take k) 2:=by
 induction k with
 |zero=>rw[cA,ceU];rfl
 |succ k ih=>
  have hk:k<(l.drop a).length:=by rw[bO];omega
  rw[show a+(k+1)=a+k+1 by omega,bkO l aA,aO,ih aA];unfold qM;rw[←cI hk,List.countP_append,aaF (show a+k<l.length by omega),List.getElem_drop];by_cases q:(l[a+k]'aA).kind=2<;>simp[q]
theorem ciO(l:List ItN):(aiN l).length=qM (l.drop (aaB l)) 2:=by
 have hc:aaB l≤l.length:=aaX l [6];have:=ccB l (aaB l) (l.length-aaB l) aA;rw[show aaB l+(l.length-aaB l)=l.length by omega,aY (by rw[bO];omega)]at this;exact this
theorem auW{s:SecN}(h:yH s=4):s.items.all ajZ=true∧s.grouped=false∧s.scale=0∧1≤(aiN s.items).length∧(aiN s.items).length≤4∧0<aaB s.items∧abS s.items (aaB s.items-1)=2∧qM s.items 3+qM s.items 4+qM s.items 5=0∧qM s.items 6=1∧qM s.items 7=0∧qM s.items 8=0:=by
 obtain⟨l,gr,sc⟩:=s;unfold yH at h;simp only at h ⊢;by_cases h1:l.all ajZ=false
 ·rw[aN h1]at h;omega
 rw[aM h1]at h;have hsh:shp l=4∧gr=false∧sc=0:=by
  split at h
  ·split at h<;>omega
  split at h
  ·rename_i g;exact⟨h,g⟩
  omega
 rw[ciO];have hc:aaB l≤l.length:=aaX l [6];have hx:1≤qM (l.drop (aaB l)) 2∧qM (l.drop (aaB l)) 2≤4∧0<(l.take (aaB l)).length∧((l.take (aaB l)).getD ((l.take (aaB l)).length-1) ⟨0,[]⟩).kind=2∧qM l 3+qM l 4+qM l 5=0∧qM l 6=1∧qM l 7=0∧qM l 8=0:=by
  have hs:=hsh.1;unfold shp at hs
  repeat' split at hs
  all_goals first|omega|skip
  rename_i q1 q2 q3 q4 q5 q6
  have:qM l 7=0∧qM l 8=0:=by omega
  exact⟨q6.2.2.2.1,q6.2.2.2.2,q6.1,q6.2.1,q5.2,q5.1,this⟩
 obtain⟨x1,x2,x3,x4,x5⟩:=hx;rw[aV]at x3 x4;refine⟨by simpa using h1,hsh.2.1,hsh.2.2,x1,x2,by omega,?_,x5⟩;rw[cZ hc]at x4;rw[aP,List.getElem?_take_of_lt aA,←aP]at x4;exact x4
theorem ajF(hk:yK x<3): -4000≤zU (yS x).1.2.1 (yS x).1.2.2∧zU (yS x).1.2.1 (yS x).1.2.2≤4000:=by
 have hm:=acN x;have hp:=aaZ x;have he:=btN (alN x) (m:=yA x) (e:=zP x) aA hp;have hr:=qP x;rw[qU hr];have hl:=(yX hr).1;unfold yS at hl ⊢;rw[aJ]at hl ⊢
 dsimp only at hl ⊢
 omega
/-! ### how long -/
theorem bnM{neg:Bool}{ds:List UInt8}{e:Int}{q:List Pc}{m:Nat}(hm:20010≤m)(hl:l.length≤10000)(hr:yE ds e=true)(hp: -4000≤zU ds e∧zU ds e≤4000)(h:∀p,p∈q→p.txt.length≤m):∀p,p∈bjI l neg ds e q→p.txt.length≤m:=by
 unfold bjI;split
 ·obtain⟨h1,h2⟩:=bfY (l:=l) hr hp;have ha:(aiT l).length≤l.length:=bC (adZ _ _ _) (aaX _ _);have hw:=bsR neg ds (bjJ l ds e) (max 1 (aiT l).length) ((acZ l).length:Int) aA aA aA;unfold ceD;have hd:=asU (n:=(ckR l neg ds e).1.natAbs) (by unfold ckR;omega);have hg:=adZ l (zZ l [5]) l.length;refine ahD ?_ (ahD ?_ h)
  ·simp only[Pc.txt,cjG,aO,bE];omega
  simp only[Pc.txt,bnB];repeat' split
  all_goals simp only[aW,bG]
  all_goals omega
 exact h
theorem bnN{gr:Bool}{sc:Int}{neg:Bool}{ds:List UInt8}{e:Int}{q:List Pc}(ho:o.ok)(hl:l.length≤10000)(hsc:0≤sc∧sc≤20000)(hr:yE ds e=true)(hp: -4000≤zU ds e∧zU ds e≤4000)(h:∀p,p∈q→p.txt.length≤1200000):∀p,p∈bdO l gr sc o neg ds e q→p.txt.length≤1200000:=by
 have hn:=asB (l:=l) (sc:=sc) (neg:=neg) hr hp hl hsc;have hs:=aiA hn.1 hn.2;have hQ:=bnM (l:=l) (neg:=neg) (ds:=ds) (e:=e) (show 20010≤1200000 by decide) hl hr hp h;unfold bdO ckE;generalize abJ (apE l sc neg ds e) (acZ l).length=S at *;have hP:=ayD (l:=l) (row:=S.2) (show 1≤1200000 by decide) (abL l 0 (acZ l) (aeS S.2)) 0 (acZ l) _ hQ;refine agE (amU ho gr) aA _ _ _ _ ?_;split
 ·refine ahD ?_ hP;have:=ho.1;simp only[Pc.txt,aO];omega
 exact hP
theorem bgP{gr:Bool}{most:Nat}{q:List Pc}(ho:o.ok)(hm:1≤most∧most≤9999)(h:∀p,p∈q→p.txt.length≤1200000):∀p,p∈auB l gr o (akO x most) q→p.txt.length≤1200000:=by
 obtain⟨_,_,h3,_,h5⟩:=biU x hm;have h7:=(beX x hm).2;have h8:=(bqQ x hm).2.2.2;generalize akO x most=r at *;have d1:=asU (n:=r.2.2) aA;have d2:=asU (n:=r.2.1) aA;have hq:∀k p,p∈q.set k (.fx (dec r.2.2))→p.txt.length≤1200000:=λk=>ahD (by simp only[Pc.txt];omega) h;have hw:∀k p,p∈acF l (aaS o gr) (apJ r.1) true false (atS l) (q.set k (.fx (dec r.2.2)))→p.txt.length≤1200000:=λk=>agE (amU ho gr) aA _ _ _ _ (hq k);unfold auB;split
 ·exact agE (amU ho gr) aA _ _ _ _ (hq _)
 split
 ·exact bdR (hw _)
 exact agE (amU ho gr) aA _ _ _ _ (hw _)
theorem caF(l:List ItN)(gr:Bool)(sc:Int)(o:Loc)(neg:Bool)(ds:List UInt8)(e:Int)(q:List Pc):(bdO l gr sc o neg ds e q).length=q.length:=by
 unfold bdO ckE;rw[acU];split
 ·rw[cP,aiD,ayH]
 rw[aiD,ayH]
theorem bvR(l:List ItN)(gr:Bool)(o:Loc)(r:(Bool×List UInt8×Int)×Nat×Nat)(q:List Pc):(auB l gr o r q).length=q.length:=by
 unfold auB;split
 ·rw[acU,cP]
 split
 ·rw[azT,acU,cP]
 rw[acU,acU,cP]
theorem chD(h1:1≤(aiN l).length)(h4:(aiN l).length≤4):1≤anZ l∧anZ l≤9999:=by
 unfold anZ;rcases(by omega:(aiN l).length=1∨(aiN l).length=2∨(aiN l).length=3∨(aiN l).length=4)with q|q|q|q<;>rw[q]<;>decide
theorem byN(ho:o.ok){s:SecN}(hl:s.items.length≤100)(hi:s.items.all ajZ=true)(hk:yK x<3):(abM o s x).1.length=s.items.length∧(afY (abM o s x).1).length≤200000000:=by
 have hlay:=avY ho hi (m:=1200000) aC;have hka:yK (abZ x)<3:=by rw[akJ];exact hk
 have key:(abM o s x).1.length=s.items.length∧∀p,p∈(abM o s x).1→p.txt.length≤1200000:=by
  unfold abM;split
  ·exact⟨by rw[anI,cE],aoF (bC (baN ho hk) aC) hlay⟩
  split
  ·exact⟨by rw[anI,cE],aoF (bC (baN ho hka) aC) hlay⟩
  split
  ·rename_i q
   obtain⟨_,_,h3,h4,_⟩:=alZ q;exact⟨by rw[caF,cE],bnN ho aA aA (qP _) (ajF hka) hlay⟩
  split
  ·rename_i q
   obtain⟨_,_,_,h4,h5,_⟩:=auW q;exact⟨by rw[bvR,cE],bgP ho (chD h4 h5) hlay⟩
  exact⟨by rw[cE],hlay⟩
 refine⟨key.1,?_⟩;have:=auN key.2;rw[key.1]at this;exact bC this (bC (bD _ hl) aC)
section
open Go Go.RowKit
set_option maxRecDepth 100000
theorem bxL(x:Nat)(hx:x<18446744073709551616)(hk:yK x<3):Fn 34 [.int .u64 (x:Int)] (.int .u64 ((abZ x:Nat):Int)):=by
 intro H;refine .of_body func34 rfl ntmps34 results34 rfl ?_;iterate 9 refine AM ?_
 refine .cl rfl C31 (evs1 rfl) (acY x hx _) ?_;iterate 3 refine AX ?_
 refine .cx rfl (λhc5=>?_) (λhc5=>?_)
 ·omega
 iterate 5 refine AX ?_
 refine .p rfl (axZ (tm rfl) (yB 9223372036854775808) aB aA) ?_;iterate 5 refine AX ?_
 refine⟨?_,rfl⟩;unfold abZ;rw[←ccV hx];rfl
theorem ajH(p:List SecN)(tp:Tail)(hs:∀s,s∈p→s.items.length≤1000)(x:Nat)(hx:x<18446744073709551616)(o:Loc)(ho:o.ok)(hs2:o.second=2∨o.second=3)(H:Heap):ACall prog 12 [.agg [bdM p tp],.int .u64 (x:Int),pL o (szA o)] H (λy H'=>y= .tuple [.str (abW o p x).1,.int .i64 (abW o p x).2]∧H'=H):=by
 refine ACall.of_body func12 rfl ntmps12 results12 rfl ?_;iterate 13 refine AX ?_
 refine .cl rfl call30 (evs1 rfl) (apD p tp hs _) ?_;iterate 4 refine AX ?_
 refine AWP.cx rfl (λhc15=>?_) (λhc15=>?_)
 ·iterate 10 refine AX ?_
  refine⟨?_,rfl⟩;unfold abW;rw[aN (by simpa using hc15)];rfl
 have hr:aeP p=true:=by simpa using hc15
 obtain⟨hp1,hp4⟩:=avE hr;obtain⟨hl1,hl2,hl3⟩:=baU hr (byQ hp1 x);iterate 3 refine AX ?_
 refine .cl rfl C31 (evs1 rfl) (acY x hx _) ?_;iterate 4 refine AX ?_
 refine AWP.cx rfl (λhc19=>?_) (λhc19=>?_)
 ·iterate 10 refine AX ?_
  refine⟨?_,rfl⟩;unfold abW;rw[aM (by rw[hr];simp),aK];rfl
 have hk:yK x<3:=by omega
 have hka:yK (abZ x)<3:=by rw[akJ];exact hk
 have hax:=bdE x;obtain⟨hq1,hq2⟩:=byN ho hl1 hl2 hk;have hnt:abW o p x=((if(abM o (blV p x) x).2=true∧x/9223372036854775808=1∧p.length=1 then o.minus else [])++afY (abM o (blV p x) x).1,0):=by unfold abW;rw[aM (by rw[hr];simp),aJ]
 have hsec:=axH p tp ⟨hp1,hp4⟩ x hx;generalize blV p x=z at *;obtain⟨l,gr,sc⟩:=z;have hl1:l.length≤100:=hl1;have hq1:(abM o ⟨l,gr,sc⟩ x).1.length=l.length:=hq1;iterate 4 refine AX ?_
 refine AWP.draw [(0,true),(1,true),(2,true),(3,true),(4,false),(5,true)] rfl aE ?_;iterate 2 refine AX ?_
 refine APlan.f rfl rfl (λ_=>zB call33 (evs2 rfl rfl) (hsec _)) ?_;refine AX ?_;refine .s rfl rfl (zB call32 (evs2 rfl rfl) (avD l gr sc o aA _)) ?_;rintro _ _ ⟨b,rfl,hb,rfl⟩;iterate 6 refine AX ?_
 refine .cl rfl call34 (evs1 rfl) (bxL x hx hk _) ?_;iterate 8 refine AX ?_
 refine AWP.meet (λenv H2=>env=[(1,.int .u64 (x:Int)),(3,.iptr [bdM p tp]),(5,.iptr (pL o (szA o)).cells),(8,.iptr (shC l gr sc o b l.length)),(10,.bool (abM o ⟨l,gr,sc⟩ x).2)]∧H2=H.set b (pcR (abM o ⟨l,gr,sc⟩ x).1)) ?_ ?_
 ·iterate 4 refine AX ?_
  refine .p rfl (zA U89 rfl Z52 (tm rfl)) ?_;refine AX ?_;refine .cl rfl call35 (evs1 rfl) (alT l gr sc _ aA _) ?_;iterate 9 refine AX ?_
  refine AWP.cx rfl (λhc35=>?_) (λhc35=>?_)
  ·iterate 4 refine AX ?_
   refine .cl rfl call37 (evs2 rfl rfl) (anJ o ho _ x hx _) (.s rfl (zB call36 (.cons (tm rfl) (.cons zJ (evs1 rfl))) (anT l gr sc o b l.length (l.map (aeL o)) (by rw[cE]) rfl aA 8 _ _ (oS _ _ _))) ?_);rintro _ _ rfl;rw[sS];iterate 3 refine AX ?_
   refine Meets.mk (M:=λenv H2=>env=[(1,.int .u64 (x:Int)),(3,.iptr [bdM p tp]),(5,.iptr (pL o (szA o)).cells),(8,.iptr (shC l gr sc o b l.length)),(10,.bool (abM o ⟨l,gr,sc⟩ x).2)]∧H2=H.set b (pcR (abM o ⟨l,gr,sc⟩ x).1)) ⟨rfl,by unfold abM;rw[aN (show yH ⟨l,gr,sc⟩=6 by omega)]<;>rfl⟩ (zK rfl (zK rfl (zK rfl (zK rfl (zR rfl ((by unfold abM;rw[aN (show yH ⟨l,gr,sc⟩=6 by omega)]<;>rfl)) yF))))) (hRa _)
  iterate 6 refine AX ?_
  refine AWP.cx rfl (λhc42=>?_) (λhc42=>?_)
  ·iterate 4 refine AX ?_
   refine .cl rfl call37 (evs2 rfl rfl) (anJ o ho _ (abZ x) hax _) ?_;iterate 7 refine AX ?_
   refine .s rfl (zB call36 (.cons (tm rfl) (.cons zJ (evs1 rfl))) (anT l gr sc o b l.length (l.map (aeL o)) (by rw[cE]) rfl aA 7 _ _ (oS _ _ _))) ?_;rintro _ _ rfl;rw[sS];iterate 9 refine AX ?_
   refine Meets.mk (M:=λenv H2=>env=[(1,.int .u64 (x:Int)),(3,.iptr [bdM p tp]),(5,.iptr (pL o (szA o)).cells),(8,.iptr (shC l gr sc o b l.length)),(10,.bool (abM o ⟨l,gr,sc⟩ x).2)]∧H2=H.set b (pcR (abM o ⟨l,gr,sc⟩ x).1)) ⟨rfl,by unfold abM;rw[aM (show¬yH ⟨l,gr,sc⟩=6 by omega),aN (show yH ⟨l,gr,sc⟩=5 by omega)]<;>rfl⟩ (zK rfl (zK rfl (zK rfl (zK rfl (zR rfl ((by unfold abM;rw[aM (show¬yH ⟨l,gr,sc⟩=6 by omega),aN (show yH ⟨l,gr,sc⟩=5 by omega)];exact congrArg AV.bool decide_not.symm)) yF))))) (hRa _)
  refine AWP.seqToL [(52,.bool (decide (yH ⟨l,gr,sc⟩=2∨yH ⟨l,gr,sc⟩=3)))] [1,3,5,6,7,8,9,10,34] ?_ ?_
  ·iterate 6 refine AX ?_
   refine AWP.cx rfl (λhc52=>?_) (λhc52=>?_)
   ·refine AX ?_;exact⟨rfl,(zR rfl (by exact congrArg AV.bool (aQ.2 aA)) sX),rfl⟩
   iterate 4 refine AX ?_
   exact⟨rfl,(zR rfl (by exact congrArg AV.bool (aQ.2 aA)) sX),rfl⟩
  refine AWP.sub [(52,_),(1,_),(3,_),(5,_),(6,_),(7,_),(8,_),(9,_),(10,_),(34,_)] sX ?_;refine AWP.cx rfl (λhc52=>?_) (λhc52=>?_)
  ·have hsh:yH ⟨l,gr,sc⟩=2∨yH ⟨l,gr,sc⟩=3:=by omega
   obtain⟨_,_,hs3,hs4,_⟩:=alZ hsh;obtain⟨_,hn2,hn3⟩:=bbT hsh;have hn2:(aiT l).length=0→zZ l [3,5]<zZ l [5]:=λq=>(hn2 q).1;have hn3:zZ l [5]<l.length→agW l (zZ l [5]) l.length≠[]:=λq=>(hn3 q).1;have hs3:0≤sc:=hs3;have hs4:sc≤9:=hs4;have hfine:=ajF hka;have hc5:=aaX l [5];have hdr:=qP (abZ x);iterate 3 refine AX ?_
   refine .cl rfl call38 (evs1 rfl) (auF (abZ x) hax _) ?_;iterate 3 refine AX ?_
   refine .al zr61 (λb12 hb12=>?_);iterate 4 refine AX ?_
   refine AWP.frz (t:=12) rfl (hb12) ?_;iterate 3 refine AX ?_
   refine .s rfl (zB call39 (evs2 rfl rfl) (bbS l gr sc o b l.length (l.map (aeL o)) ho hs2 aA aA rfl (by rw[cE]) (yS (abZ x)).1.1 (yS (abZ x)).1.2.1 (yS (abZ x)).1.2.2 hdr hfine (λq=>by have:=hn2 q;omega) hn3 _ (oS _ _ _))) ?_;rintro _ _ ⟨rfl,hH⟩;obtain rfl:=hH;rw[sS];iterate 4 refine AX ?_
   refine Meets.mk (M:=λenv H2=>env=[(1,.int .u64 (x:Int)),(3,.iptr [bdM p tp]),(5,.iptr (pL o (szA o)).cells),(8,.iptr (shC l gr sc o b l.length)),(10,.bool (abM o ⟨l,gr,sc⟩ x).2)]∧H2=H.set b (pcR (abM o ⟨l,gr,sc⟩ x).1)) ⟨rfl,by unfold abM;rw[aM (show¬yH ⟨l,gr,sc⟩=6 by omega),aM (show¬yH ⟨l,gr,sc⟩=5 by omega),aN (show yH ⟨l,gr,sc⟩=2∨yH ⟨l,gr,sc⟩=3 by omega)]<;>rfl⟩ (zK rfl (zK rfl (zK rfl (zK rfl (zR rfl ((by unfold abM;rw[aM (show¬yH ⟨l,gr,sc⟩=6 by omega),aM (show¬yH ⟨l,gr,sc⟩=5 by omega),aN (show yH ⟨l,gr,sc⟩=2∨yH ⟨l,gr,sc⟩=3 by omega)]<;>rfl)) yF))))) (hRa _)
  iterate 6 refine AX ?_
  refine AWP.cx rfl (λhc63=>?_) (λhc63=>?_)
  ·obtain⟨_,_,_,hf4,hf5,_⟩:=auW (s:=⟨l,gr,sc⟩) aA;iterate 3 refine AX ?_
   refine .s rfl (zB call40 (evs2 rfl rfl) (auA l gr sc o b l.length (l.map (aeL o)) ho hs2 aA rfl (by rw[cE]) (abZ x) hax hka (aaX l [6]) hf4 hf5 _ (oS _ _ _))) ?_;rintro _ _ ⟨rfl,hH⟩;obtain rfl:=hH;rw[sS];iterate 4 refine AX ?_
   refine Meets.mk (M:=λenv H2=>env=[(1,.int .u64 (x:Int)),(3,.iptr [bdM p tp]),(5,.iptr (pL o (szA o)).cells),(8,.iptr (shC l gr sc o b l.length)),(10,.bool (abM o ⟨l,gr,sc⟩ x).2)]∧H2=H.set b (pcR (abM o ⟨l,gr,sc⟩ x).1)) ⟨rfl,by unfold abM;rw[aM (show¬yH ⟨l,gr,sc⟩=6 by omega),aM (show¬yH ⟨l,gr,sc⟩=5 by omega),aM (show¬(yH ⟨l,gr,sc⟩=2∨yH ⟨l,gr,sc⟩=3) by omega),aN (show yH ⟨l,gr,sc⟩=4 by omega)]<;>rfl⟩ (zK rfl (zK rfl (zK rfl (zK rfl (zR rfl ((by unfold abM;rw[aM (show¬yH ⟨l,gr,sc⟩=6 by omega),aM (show¬yH ⟨l,gr,sc⟩=5 by omega),aM (show¬(yH ⟨l,gr,sc⟩=2∨yH ⟨l,gr,sc⟩=3) by omega),aN (show yH ⟨l,gr,sc⟩=4 by omega)]<;>rfl)) yF))))) (hRa _)
  iterate 3 refine AX ?_
  refine Meets.mk (M:=λenv H2=>env=[(1,.int .u64 (x:Int)),(3,.iptr [bdM p tp]),(5,.iptr (pL o (szA o)).cells),(8,.iptr (shC l gr sc o b l.length)),(10,.bool (abM o ⟨l,gr,sc⟩ x).2)]∧H2=H.set b (pcR (abM o ⟨l,gr,sc⟩ x).1)) ⟨rfl,by unfold abM;rw[aM (show¬yH ⟨l,gr,sc⟩=6 by omega),aM (show¬yH ⟨l,gr,sc⟩=5 by omega),aM (show¬(yH ⟨l,gr,sc⟩=2∨yH ⟨l,gr,sc⟩=3) by omega),aM (show¬yH ⟨l,gr,sc⟩=4 by omega)]<;>rfl⟩ (zK rfl (zK rfl (zK rfl (zK rfl (zR rfl ((by unfold abM;rw[aM (show¬yH ⟨l,gr,sc⟩=6 by omega),aM (show¬yH ⟨l,gr,sc⟩=5 by omega),aM (show¬(yH ⟨l,gr,sc⟩=2∨yH ⟨l,gr,sc⟩=3) by omega),aM (show¬yH ⟨l,gr,sc⟩=4 by omega)]<;>rfl)) yF))))) (hRa _)
 rintro _ _ ⟨rfl,rfl⟩;generalize abM o ⟨l,gr,sc⟩ x=S at *;iterate 3 refine AX ?_
 refine .cl rfl call41 (evs1 rfl) (aqT l gr sc o b l.length S.1 hq1 aA aA _ (oS _ _ _)) ?_;iterate 4 refine AX ?_
 refine AWP.seqTo 81 (.bool (decide (S.2=true∧x/9223372036854775808=1∧p.length=1))) [5,14] ?_ ?_
 ·iterate 3 refine AX ?_
  refine zD (t:=71) rfl (λhg71=>?_) (λhg71=>?_)
  ·have hh71:=hg71;try simp only[aL]at hh71
   iterate 5 refine AM ?_
   refine zD (t:=76) rfl (λhg76=>?_) (λhg76=>?_)
   ·have hh76:=hg76;try simp only[aL]at hh76
    refine .gp rfl rfl rfl aB (zA U24 rfl Z22 (tm rfl)) ?_;iterate 5 refine AX ?_
    exact⟨rfl,zS rfl (by(refine Eq.symm ?_;first|(refine aQ.2 ⟨λq=>by omega,λq=>⟨by assumption,by omega,by omega⟩⟩)|(refine aS λq=>?_;obtain⟨q1,q2,q3⟩:=q;first|omega|simp_all))) sX,rfl⟩
   have hh76:=hg76;try simp only[aL]at hh76
   iterate 6 refine AX ?_
   exact⟨rfl,zS rfl (by(refine Eq.symm ?_;first|(refine aQ.2 ⟨λq=>by omega,λq=>⟨by assumption,by omega,by omega⟩⟩)|(refine aS λq=>?_;obtain⟨q1,q2,q3⟩:=q;first|omega|simp_all))) sX,rfl⟩
  have hh71:=hg71;try simp only[aL]at hh71
  iterate 11 refine AX ?_
  exact⟨rfl,zS rfl (by(refine Eq.symm ?_;first|(refine aQ.2 ⟨λq=>by omega,λq=>⟨by assumption,by omega,by omega⟩⟩)|(refine aS λq=>?_;obtain⟨q1,q2,q3⟩:=q;first|omega|simp_all))) sX,rfl⟩
 refine AWP.sub [(81,_),(5,_),(14,_)] sX ?_;refine AWP.cx rfl (λhc81=>?_) (λhc81=>?_)
 ·refine AX ?_;refine .p rfl (zA U32 rfl Z9 (tm rfl)) ?_;iterate 2 refine AX ?_
  refine .p rfl (zY (tm rfl) (tm rfl) (by have:=ho.2.2.1;rw[zQ];omega)) ?_;iterate 11 refine AX ?_
  refine Ret.go (.cons (.tmp _ _ rfl) (.cons (.tmp _ _ rfl) .nil)) H (Heap.le_set hb _) ?_;refine⟨?_,rfl⟩;rw[hnt,aN hc81];rfl
 iterate 10 refine AX ?_
 refine Ret.go (.cons (.tmp _ _ rfl) (.cons (.tmp _ _ rfl) .nil)) H (Heap.le_set hb _) ?_;refine⟨?_,rfl⟩;rw[hnt,aM hc81,cH];rfl
end
end Go.Proofs.YteedncdcbgplfaaGreatDoor
