import Derived.Test.YteedncdcbgplfaaGreatDoorJ9
set_option maxHeartbeats 1000000
namespace Go.Proofs.YteedncdcbgplfaaGreatDoor
open Go.Proofs.Tryz
open Go Go.RowKit
variable{l:List ItN}{kd:Int}{i:Nat}
section
set_option maxRecDepth 100000
theorem brO(h:∀q x,q<i→l[q]?=some x→decide (x.kind∈[kd])=false)(hi:i<l.length)(hv:¬l[i].kind=kd):∀q x,q<i+1→l[q]?=some x→decide (x.kind∈[kd])=false:=akS (p:=λx:ItN=>decide (x.kind∈[kd])) h hi (by simp[hv])
theorem bwW(h:∀q x,q<i→l[q]?=some x→decide (x.kind∈[kd])=false)(hi:i<l.length)(hv:l[i].kind=kd):yC l [kd]=i:=aoF (p:=λx:ItN=>decide (x.kind∈[kd])) h hi (by simp[hv])
theorem brN(h:∀q x,q<i→l[q]?=some x→decide (x.kind∈[kd])=false)(hi:l.length≤i):yC l [kd]=l.length:=akR (p:=λx:ItN=>decide (x.kind∈[kd])) h hi
def bkT(l:List ItN)(_:Bool)(_:Int)(_:Loc)(_ _:Nat)(kd:Int)(H:Heap):Nat→Env→Heap→Prop:=λk env H1=>∃i:Nat,i≤l.length∧(∀q x,q<i→l[q]?=some x→decide (x.kind∈[kd])=false)∧env=[(1,.int .i64 kd),(5,itS l .shared),(6,.int .i64 (i:Int))]∧H=H1∧k=l.length-i
theorem ajB(l:List ItN)(gr:Bool)(sc:Int)(o:Loc)(b n:Nat)(hl:l.length≤100000)(kd:Int):Fn 117 [.iptr (acW l gr sc o b n),.int .i64 kd] (.int .i64 (yC l [kd]:Int)):=by
 intro H;refine .of_body func117 rfl ntmps117 results117 rfl ?_;iterate 9 refine AX ?_
 refine .p rfl (zA U186 rfl Z48 (tm rfl)) (.p rfl (zA U48 rfl Z46 (tm rfl)) ?_);iterate 11 refine AX ?_
 refine .loopW (bkT l gr sc o b n kd H) (l.length) ⟨0,Nat.zero_le _,λq x h=>by omega,rfl,rfl,rfl⟩ (zF rfl (zF rfl (zF rfl zW))) (hRa _) ?_;rintro _ _ _ ⟨i,hi,hno,rfl,rfl,rfl⟩;iterate 9 refine AX ?_
 refine .cx rfl (λhc15=>?_) (λhc15=>?_)
 ·iterate 9 refine AX ?_
  refine .p rfl (zA U78 rfl Z3 (tm rfl)) ?_;iterate 5 refine AX ?_
  refine .cx rfl (λhc24=>?_) (λhc24=>?_)
  ·iterate 13 refine AX ?_
   rw[bwW hno aA hc24];exact⟨rfl,rfl⟩
  iterate 9 refine AX ?_
  refine Round.mk ⟨i+1,by omega,brO hno aA hc24,rfl,rfl,rfl⟩ (zF rfl (zF rfl (zF rfl zW))) (hRa _) aA
 iterate 14 refine AX ?_
 rw[brN hno aA];exact⟨rfl,rfl⟩
def atZ(l:List ItN)(gr:Bool)(sc:Int)(o:Loc)(b n:Nat)(a e:Nat)(H:Heap):Nat→Env→Heap→Prop:=λk env H1=>∃(i t:Nat),a≤i∧i≤e∧env=[(0,.iptr (acW l gr sc o b n)),(2,.int .i64 (e:Int)),(7,abB (acN l a i) (.own t)),(8,.int .i64 (i:Int))]∧H.le H1∧H1.toks t=true∧H.toks t=false∧k=e-i
theorem acI(l:List ItN)(gr:Bool)(sc:Int)(o:Loc)(b n:Nat)(hl:l.length≤100000)(a e:Nat)(hae:a≤e)(hel:e≤l.length)(H:Heap):ACall prog 119 [.iptr (acW l gr sc o b n),.int .i64 (a:Int),.int .i64 (e:Int)] H (λy H'=>y=abB (acN l a e) .shared∧H'=H):=by
 have hle0:=hRa H;refine ACall.of_body func119 rfl ntmps119 results119 rfl ?_;iterate 18 refine AX ?_
 refine AWP.tag (t:=7) rfl (λu7 hu7=>?_);have hfu7:=Heap.fresh_of hle0 hu7;have hleu7:=Heap.le_in hle0 u7;refine AWP.loopW (atZ l gr sc o b n a e H) (e-a) ⟨a,u7,bB _,hae,rfl,hleu7,Heap.toks_live_same _ _,hfu7,rfl⟩ (zF rfl (zF rfl (zU rfl (aaX (by rw[bnK];rfl)) (zF rfl zW)))) (hRa _) ?_;rintro _ _ H1 ⟨i,t,hai,hie,rfl,hle1,hlive,hfr,rfl⟩;iterate 8 refine AX ?_
 refine AWP.cx rfl (λhc12=>?_) (λhc12=>?_)
 ·iterate 8 refine AX ?_
  refine .p rfl (zA U186 rfl Z48 (tm rfl)) (.p rfl (zA U48 rfl Z46 (tm rfl)) ?_);iterate 3 refine AX ?_
  refine .p rfl (zA U78 rfl Z3 (tm rfl)) ?_;iterate 4 refine AX ?_
  refine AWP.cx rfl (λhc24=>?_) (λhc24=>?_)
  ·iterate 3 refine AX ?_
   refine .e rfl (yP U30 Z3 V3 rfl (tm rfl) (.inl rfl) ⟨rfl,rfl⟩) ?_;refine .s rfl (qW U30 U30 Z3 typeInfo3 V3 rfl aC (tm rfl) (tm rfl) (by exact .own _ hlive) (by show(_+_)*8≤_;simp only[bQ,aX,aY];have:=abA l a i;omega) (by repeat' (first|exact yD _|exact aaC|exact acS ⟨rfl,rfl⟩ aaC|exact qP (yD _)|exact qO (yD _)|refine aaE ?_ ?_ |exact auB _)) (by repeat' (first|exact yD _|exact aaC|exact acS ⟨rfl,rfl⟩ aaC|exact qP (yD _)|exact qO (yD _)|refine aaE ?_ ?_))) ?_;rintro _ _ ⟨t28,ht28,rfl,hH⟩;obtain rfl:=hH.symm;have hf28:=Heap.fresh_of hle1 ht28;have hle28:=Heap.le_in (Heap.le_out (t:=t) hle1 aB) t28;iterate 10 refine AX ?_
   refine Round.mk (J:=atZ l gr sc o b n a e H) ⟨i+1,t28,by omega,by omega,rfl,hle28,Heap.toks_live_same _ _,hf28,rfl⟩ (zF rfl (zF rfl (zU rfl (aaX (by rw[atE l hai,aN ((qB (i:=i) aA).trans hc24),dP];rfl)) (zF rfl zW)))) (hRa _) aA
  iterate 9 refine AX ?_
  refine Round.mk (J:=atZ l gr sc o b n a e H) ⟨i+1,t,by omega,by omega,rfl,hle1,hlive,hfr,rfl⟩ (zF rfl (zF rfl (zU rfl (aaX (by rw[atE l hai,aM (λq=>hc24 ((qB (i:=i) aA).symm.trans q)),bJ])) (zF rfl zW)))) (hRa _) aA
 iterate 6 refine AX ?_
 have hie:i=e:=by omega
 subst hie;refine AWP.weakv (abB (acN l a i) .shared) (t:=7) rfl (.slice _ _ _) ?_;iterate 6 refine AX ?_
 refine Ret.go (.cons (.tmp _ _ rfl) .nil) _ (hle1) ?_;exact⟨rfl,rfl⟩
theorem afI(neg:Bool)(ds:List UInt8)(e n:Int)(hl:ds.length≤100000)(he: -1000000≤e∧e≤1000000)(hn: -1000000≤n∧n≤1000000):Fn 120 [dA neg ds e,.int .i64 n] (dA neg ds (abI ds e n)):=by
 intro H;refine .of_body func120 rfl ntmps120 results120 rfl ?_;iterate 2 refine AX ?_
 refine .s rfl (aiA (tm rfl) (.inr ⟨_,rfl⟩)) ?_;rintro _ _ ⟨b2,hb2,rfl,hH⟩;obtain rfl:=hH.symm;refine .al zr61 (λb4 hb4=>?_);have hn2_4:=Heap.ne_of (oS _ _ _) hb4;iterate 5 refine AX ?_
 refine .p rfl (zG U61 rfl Z9 (tm rfl)) ?_;iterate 5 refine AX ?_
 refine .cx rfl (λhc8=>?_) (λhc8=>?_)
 ·have hd0:ds≠[]:=bK.1 aA;refine AX ?_;refine .p rfl (zG U61 rfl Z3 (tm rfl)) ?_;iterate 3 refine AX ?_
  refine .p rfl (zG U61 rfl Z3 (tm rfl)) ?_;iterate 9 refine AX ?_
  refine .frz (t:=4) rfl (fS hb4 _) ?_;refine .dropb (hb2) ?_;iterate 2 refine AX ?_
  refine⟨?_,rfl⟩;unfold abI;rw[aM hd0];rfl
 have hd0:ds=[]:=cN aA;iterate 8 refine AX ?_
 refine .frz (t:=4) rfl (hb4) ?_;refine .dropb (hb2) ?_;iterate 2 refine AX ?_
 refine⟨?_,rfl⟩;unfold abI;rw[aN hd0];rfl
theorem axG(neg:Bool)(ds:List UInt8)(e:Int)(i:Int)(_:ds.length≤100000)(hi: -1000000≤i∧i≤1000000):Fn 206 [dA neg ds e,.int .i64 i] (.str [atR ds i]):=by
 intro H;refine .of_body func206 rfl ntmps206 results206 rfl ?_;iterate 7 refine AX ?_
 refine .seqTo 13 (.bool (decide (i<0∨(ds.length:Int)≤i))) [1,2,4] ?_ ?_
 ·iterate 4 refine AX ?_
  refine zC (t:=7) rfl (λhg7=>?_) (λhg7=>?_)
  ·have hh7:=hg7;try simp only[aL]at hh7
   iterate 7 refine AX ?_
   exact⟨rfl,zO rfl (by(refine Eq.symm ?_;first|((with_reducible refine aO.2 ?_);(first|omega|simp[*]))|((with_reducible refine aQ ?_);(first|omega|simp[*]))|((with_reducible refine aP ?_);(first|omega|simp[*])))) (zF rfl (zF rfl (zF rfl zW))),rfl⟩
  have hh7:=hg7;try simp only[aL]at hh7
  refine AX ?_;refine .gp rfl rfl rfl aB (zA U61 rfl Z9 (tm rfl)) ?_;iterate 5 refine AX ?_
  exact⟨rfl,zO rfl (by(refine Eq.symm ?_;first|((with_reducible refine aO.2 ?_);(first|omega|simp[*]))|((with_reducible refine aQ ?_);(first|omega|simp[*]))|((with_reducible refine aP ?_);(first|omega|simp[*])))) (zF rfl (zF rfl (zF rfl zW))),rfl⟩
 refine .sub [(13,_),(1,_),(2,_),(4,_)] (zF rfl (zF rfl (zF rfl (zF rfl zW)))) ?_;refine .cx rfl (λhc13=>?_) (λhc13=>?_)
 ·iterate 8 refine AX ?_
  refine⟨congrArg AV.str ?_,rfl⟩;unfold atR;rw[aN hc13]
 iterate 4 refine AX ?_
 refine .p rfl (zA U61 rfl Z9 (tm rfl)) ?_;iterate 10 refine AX ?_
 refine⟨congrArg AV.str ?_,rfl⟩;unfold atR;rw[aM hc13,show(i+1).toNat=i.toNat+1 by omega,ahP (show i.toNat<ds.length by omega)]
def biU(ds:List UInt8)(p:Int)(i:Nat):List UInt8:=(List.range i).map λ(q:Nat)=>atR ds (p+(q:Int))
theorem buD(ds:List UInt8)(p:Int)(i:Nat):biU ds p (i+1)=biU ds p i++[atR ds (p+(i:Int))]:=by unfold biU;rw[List.range_succ,dP];rfl
theorem beN(ds:List UInt8)(p:Int)(i:Nat):(biU ds p i).length=i:=by unfold biU;simp
theorem bpW(ds:List UInt8)(p:Int)(places:Nat):bpX ds p places=if ds=[]then([],biU ds p places)else(biU ds 0 p.toNat,biU ds p places):=by
 unfold bpX biU;simp only[Int.zero_add]
def bkE(neg:Bool)(ds:List UInt8)(e p:Int)(places:Nat)(H:Heap):Nat→Env→Heap→Prop:=λk env H1=>∃i:Nat,i≤p.toNat∧env=[(1,.int .i64 (places:Int)),(2,.iptr [.bool neg,.str ds,.int .i64 e]),(6,.int .i64 p),(7,.str (biU ds 0 i)),(8,.int .i64 (i:Int))]∧H=H1∧k=p.toNat-i
def bkD(neg:Bool)(ds:List UInt8)(e p:Int)(places:Nat)(H:Heap):Nat→Env→Heap→Prop:=λk env H1=>∃i:Nat,i≤places∧env=[(1,.int .i64 (places:Int)),(2,.iptr [.bool neg,.str ds,.int .i64 e]),(6,.int .i64 p),(7,.str (biU ds 0 p.toNat)),(9,.str (biU ds p i)),(10,.int .i64 (i:Int))]∧H=H1∧k=places-i
theorem arZ(neg:Bool)(ds:List UInt8)(e:Int)(hl:ds.length≤2000)(hp: -110000≤yF ds e∧yF ds e≤110000)(places:Nat)(hpl:places≤100000):Fn 122 [dA neg ds e,.int .i64 (places:Int)] (.tuple [.str (bpX ds (yF ds e) places).1,.str (bpX ds (yF ds e) places).2]):=by
 intro H;refine .of_body func122 rfl ntmps122 results122 rfl ?_;iterate 10 refine AX ?_
 refine .cl rfl C73 (evs1 rfl) (acK neg ds e (by rw[zN];omega) _) ?_;rw[bpW];generalize yF ds e=p at *;iterate 15 refine AX ?_
 refine .loopW (bkE neg ds e p places H) (p.toNat) ⟨0,Nat.zero_le _,rfl,rfl,rfl⟩ (zF rfl (zF rfl (zF rfl (zF rfl (zF rfl zW))))) (hRa _) ?_;rintro _ _ _ ⟨i,hi,rfl,rfl,rfl⟩;iterate 8 refine AX ?_
 refine .cx rfl (λhc15=>?_) (λhc15=>?_)
 ·iterate 8 refine AX ?_
  refine .cl rfl call206 (evs2 rfl rfl) (axG neg ds e _ aA aA _) (.p rfl (zQ (tm rfl) (tm rfl) (by rw[zN,beN];simp only[aX,aY];omega)) ?_);iterate 10 refine AX ?_
  refine Round.mk ⟨i+1,by omega,rfl,rfl,rfl⟩ (zF rfl (zF rfl (zF rfl (zU rfl (by rw[buD,Int.zero_add]) (zF rfl zW))))) (hRa _) aA
 iterate 17 refine AX ?_
 refine .loopW (bkD neg ds e p places H) (places) ⟨0,Nat.zero_le _,rfl,rfl,rfl⟩ (zF rfl (zF rfl (zF rfl (zU rfl (by rw[show i=p.toNat by omega]) (zF rfl (zF rfl zW)))))) (hRa _) ?_;rintro _ _ _ ⟨j,hj,rfl,rfl,rfl⟩;iterate 8 refine AX ?_
 refine .cx rfl (λhc25=>?_) (λhc25=>?_)
 ·iterate 10 refine AX ?_
  refine .cl rfl call206 (evs2 rfl rfl) (axG neg ds e _ aA aA _) (.p rfl (zQ (tm rfl) (tm rfl) (by rw[zN,beN];simp only[aX,aY];omega)) ?_);iterate 10 refine AX ?_
  refine Round.mk ⟨j+1,by omega,rfl,rfl,rfl⟩ (zF rfl (zF rfl (zF rfl (zF rfl (zU rfl (by rw[buD]) (zF rfl zW)))))) (hRa _) aA
 iterate 8 refine AX ?_
 refine .p rfl (zA U61 rfl Z9 (tm rfl)) ?_;iterate 5 refine AX ?_
 refine .cx rfl (λhc38=>?_) (λhc38=>?_)
 ·iterate 10 refine AX ?_
  refine⟨?_,rfl⟩;rw[aN (cN aA),show j=places by omega];rfl
 iterate 12 refine AX ?_
 refine⟨?_,rfl⟩;rw[aM (λq=>by rw[q]at hc38;exact absurd rfl hc38),show j=places by omega];rfl
theorem awZ(l:List ItN)(gr:Bool)(sc:Int)(o:Loc)(b n:Nat)(hs2:o.second=2∨o.second=3)(q:Nat)(hq:q≤1000000):Fn 207 [.iptr (acW l gr sc o b n),.int .i64 (q:Int)] (.str (qV o gr q)):=by
 intro H;have htm:3≤q→((q:Int)-3).tmod (o.second:Int)=(((q-3)%o.second:Nat):Int):=λh=>by
  rw[Int.tmod_eq_emod_of_nonneg aA,show(q:Int)-3=((q-3:Nat):Int) by omega];rfl
 refine .of_body func207 rfl ntmps207 results207 rfl ?_;iterate 6 refine AX ?_
 refine .seqTo 25 (.bool (decide (¬(gr=true∧3≤q∧(q-3)%o.second=0)))) [0,4] ?_ ?_
 ·iterate 3 refine AX ?_
  refine .p rfl (zA U186 rfl Z48 (tm rfl)) (.p rfl (zA U48 rfl Z4 (tm rfl)) ?_);iterate 3 refine AX ?_
  refine zC (t:=11) rfl (λhg11=>?_) (λhg11=>?_)
  ·have hh11:=hg11;try simp only[aL]at hh11
   iterate 15 refine AX ?_
   exact⟨rfl,zO rfl (by(refine Eq.symm ?_;first|exact aQ (λz=>absurd z.2.1 aA)|exact aQ (λz=>Bool.noConfusion (hh11.symm.trans z.1))|(rw[htm aA];exact aO.2 (not_congr ⟨λw=>(by rw[w.2.2];rfl),λw=>⟨hh11,by omega,Int.ofNat_eq_zero.1 w⟩⟩)))) (zF rfl (zF rfl zW)),rfl⟩
  have hh11:=hg11;try simp only[aL]at hh11
  iterate 4 refine AX ?_
  refine zC (t:=15) rfl (λhg15=>?_) (λhg15=>?_)
  ·have hh15:=hg15;try simp only[aL]at hh15
   iterate 11 refine AX ?_
   exact⟨rfl,zO rfl (by(refine Eq.symm ?_;first|exact aQ (λz=>absurd z.2.1 aA)|exact aQ (λz=>Bool.noConfusion (hh11.symm.trans z.1))|(rw[htm aA];exact aO.2 (not_congr ⟨λw=>(by rw[w.2.2];rfl),λw=>⟨hh11,by omega,Int.ofNat_eq_zero.1 w⟩⟩)))) (zF rfl (zF rfl zW)),rfl⟩
  have hh15:=hg15;try simp only[aL]at hh15
  iterate 4 refine AX ?_
  refine .gp rfl rfl rfl aB (zA U186 rfl Z34 (tm rfl)) (.gp rfl rfl rfl aB (zA U34 rfl Z3 (tm rfl)) ?_);iterate 5 refine AX ?_
  exact⟨rfl,zO rfl (by(refine Eq.symm ?_;first|exact aQ (λz=>absurd z.2.1 aA)|exact aQ (λz=>Bool.noConfusion (hh11.symm.trans z.1))|(rw[htm aA];exact aO.2 (not_congr ⟨λw=>(by rw[w.2.2];rfl),λw=>⟨hh11,by omega,Int.ofNat_eq_zero.1 w⟩⟩)))) (zF rfl (zF rfl zW)),rfl⟩
 refine .sub [(25,_),(0,_),(4,_)] (zF rfl (zF rfl (zF rfl zW))) ?_;refine .cx rfl (λhc25=>?_) (λhc25=>?_)
 ·iterate 8 refine AX ?_
  refine⟨?_,rfl⟩;unfold qV;rw[aM hc25];rfl
 iterate 6 refine AX ?_
 refine .p rfl (zA U186 rfl Z34 (tm rfl)) (.p rfl (zA U34 rfl Z9 (tm rfl)) ?_);iterate 6 refine AX ?_
 refine⟨?_,rfl⟩;unfold qV;rw[aN (hc25)];rfl
end
section
open Go Go.RowKit
set_option maxRecDepth 100000
theorem alZ{a:List Nat}{k:Nat}(h:i<a.length)(hk:a.getD i 0=k):(a.map biR)[((i:Nat):Int).toNat]?=some (biR k):=by rw[←hk];exact asP h
def bcU(l:List ItN)(gr:Bool)(sc:Int)(o:Loc)(b n:Nat)(row:List UInt8)(at_:List Nat)(ws:List (List UInt8))(H:Heap):Nat→Env→Heap→Prop:=λk env H1=>∃(i:Nat)(q:List (List UInt8)),i≤at_.length∧q.length=n∧abN l row i (at_.drop i) q=abN l row 0 at_ ws∧env=[(0,.iptr (acW l gr sc o b n)),(1,.str row),(2,abB at_ .shared),(6,.int .i64 (i:Int))]∧H1=H.set b (wdR q)∧k=at_.length-i
def bcV(l:List ItN)(gr:Bool)(sc:Int)(o:Loc)(b n:Nat)(row:List UInt8)(at_:List Nat)(i:Nat)(H:Heap):Nat→Env→Heap→Prop:=λk env H1=>∃(j:Nat)(z:Bool),i≤j∧j≤at_.length∧(z||apF l row j (at_.drop j))=apF l row i (at_.drop i)∧env=[(0,.iptr (acW l gr sc o b n)),(1,.str row),(2,abB at_ .shared),(6,.int .i64 (i:Int)),(7,.bool z),(8,.int .i64 (j:Int))]∧H=H1∧k=at_.length-j
theorem aqZ(l:List ItN)(gr:Bool)(sc:Int)(o:Loc)(b n:Nat)(row:List UInt8)(at_:List Nat)(ws:List (List UInt8))(_:l.length≤100000)(hnl:n=l.length)(hpn:ws.length=n)(hat:∀k,k∈at_→k<l.length)(hal:at_.length≤row.length)(hrl:row.length≤100000)(H:Heap)(hb:H.objs b=some (wdR ws)):ACall prog 123 [.iptr (acW l gr sc o b n),.str row,abB at_ .shared] H (λ_ H'=>H'=H.set b (wdR (abN l row 0 at_ ws))):=by
 refine ACall.of_body func123 rfl ntmps123 results123 rfl ?_;iterate 6 refine AX ?_
 refine AWP.loopW (bcU l gr sc o b n row at_ ws H) (at_.length) ⟨0,ws,Nat.zero_le _,hpn,rfl,rfl,(Heap.set_self hb).symm,rfl⟩ (zF rfl (zF rfl (zF rfl (zF rfl zW)))) (hRa _) ?_;rintro _ _ _ ⟨i,q,hi,hql,hinv,rfl,rfl,rfl⟩;iterate 9 refine AX ?_
 refine AWP.cond (tm rfl) (λhc12=>?_) (λhc12=>?_)
 ·try simp only[aL]at hc12
  iterate 17 refine AX ?_
  refine AWP.loopW (bcV l gr sc o b n row at_ i (H.set b (wdR q))) (at_.length-i) ⟨i,false,bB _,by omega,by rw[Bool.false_or],rfl,rfl,rfl⟩ (zF rfl (zF rfl (zF rfl (zF rfl (zF rfl (zF rfl zW)))))) (hRa _) ?_;rintro _ _ _ ⟨j,z,hij,hj,hz,rfl,rfl,rfl⟩;iterate 9 refine AX ?_
  refine AWP.cond (tm rfl) (λhc19=>?_) (λhc19=>?_)
  ·try simp only[aL]at hc19
   iterate 4 refine AX ?_
   have hkl:=afO hat (show j<at_.length by omega);have hdj:=amD (show j<at_.length by omega);obtain⟨kj,hkj⟩:∃kj,at_.getD j 0=kj:=⟨_,rfl⟩;rw[hkj]at hkl hdj;have hb8:(((row.getD ((j:Nat):Int).toNat 0).toNat:Int)=48)↔row.getD j 0=48:=⟨λh=>eP.1 (by show _=48;exact Int.ofNat.inj h),λh=>by show(((row.getD j 0).toNat:Nat):Int)=48;rw[h];rfl⟩;refine AWP.draw [(0,true),(1,true),(2,true),(3,true),(4,true),(5,true),(6,true),(7,true),(8,true),(9,true),(10,true),(11,true),(12,true),(13,true),(14,true),(15,true),(16,true),(17,true),(18,true),(19,true),(20,true),(21,true),(22,true)] rfl aE ?_;iterate 2 refine AX ?_
   refine aqP (t:=23) rfl (λhg23=>?_) (λhg23=>?_)
   ·have hh23:=hg23;try simp only[aL]at hh23
    iterate 30 refine AX ?_
    refine Round.mk (J:=bcV l gr sc o b n row at_ i (H.set b (wdR q))) ⟨j+1,_,by omega,by omega,(by rw[←hz,hdj,apF];first|(rw[hh23];rfl)|(rw[hh23,aQ (p:=row.getD j 0≠48) (λw=>hh29 (hb8.2 w))];rfl)|(rw[hh23,aP (p:=row.getD j 0≠48) (λw=>w (hb8.1 hh29)),←qG hkl];first|rfl|(rw[aQ hh43];rfl)|(rw[aP hh43];rfl))),rfl,rfl,rfl⟩ (zF rfl (zF rfl (zF rfl (zF rfl (zF rfl (zF rfl zW)))))) (hRa _) aA
   have hh23:=hg23;try simp only[aL]at hh23
   iterate 6 refine AX ?_
   refine aqP (t:=29) rfl (λhg29=>?_) (λhg29=>?_)
   ·have hh29:=hg29;try simp only[aL]at hh29
    iterate 24 refine AX ?_
    refine Round.mk (J:=bcV l gr sc o b n row at_ i (H.set b (wdR q))) ⟨j+1,_,by omega,by omega,(by rw[←hz,hdj,apF];first|(rw[hh23];rfl)|(rw[hh23,aQ (p:=row.getD j 0≠48) (λw=>hh29 (hb8.2 w))];rfl)|(rw[hh23,aP (p:=row.getD j 0≠48) (λw=>w (hb8.1 hh29)),←qG hkl];first|rfl|(rw[aQ hh43];rfl)|(rw[aP hh43];rfl))),rfl,rfl,rfl⟩ (zF rfl (zF rfl (zF rfl (zF rfl (zF rfl (zF rfl zW)))))) (hRa _) aA
   have hh29:=hg29;try simp only[aL]at hh29
   iterate 2 refine AX ?_
   refine .gp rfl rfl rfl rfl aB (zA U186 rfl Z48 (tm rfl)) (.gp rfl rfl rfl rfl aB (zA U48 rfl Z46 (tm rfl)) ?_);iterate 3 refine AX ?_
   refine .gp rfl rfl rfl rfl aB (qA U30 Z3 (tm rfl) (tm rfl) aA (alZ (show j<at_.length by omega) hkj)) ?_;iterate 2 refine AX ?_
   refine .gp rfl rfl rfl rfl aB (zA U78 rfl Z9 (tm rfl)) ?_;iterate 13 refine AX ?_
   refine Round.mk (J:=bcV l gr sc o b n row at_ i (H.set b (wdR q))) ⟨j+1,_,by omega,by omega,(by rw[←hz,hdj,apF];first|(rw[hh23];rfl)|(rw[hh23,aQ (p:=row.getD j 0≠48) (λw=>hh29 (hb8.2 w))];rfl)|(rw[hh23,aP (p:=row.getD j 0≠48) (λw=>w (hb8.1 hh29)),←qG hkl];first|rfl|(rw[aQ hh43];rfl)|(rw[aP hh43];rfl))),rfl,rfl,rfl⟩ (zF rfl (zF rfl (zF rfl (zF rfl (zF rfl (zF rfl zW)))))) (hRa _) aA
  try simp only[aL]at hc19
  iterate 7 refine AX ?_
  have hji:j=at_.length:=by omega
  subst hji;rw[dL,apF,Bool.or_false]at hz;have hkl:=afO hat (show i<at_.length by omega);have hdr:=amD (show i<at_.length by omega);obtain⟨kk,hkk⟩:∃kk,at_.getD i 0=kk:=⟨_,rfl⟩;rw[hkk]at hkl hdr;rw[hdr]at hz;iterate 5 refine AX ?_
  refine AWP.cond (tm rfl) (λhc44=>?_) (λhc44=>?_)
  ·try simp only[aL]at hc44
   refine AWP.draw [(0,true),(1,true),(2,true),(3,true),(4,true),(5,true),(6,true),(7,true),(8,true),(9,true),(10,true),(11,true),(12,true),(13,true),(14,false)] rfl aE ?_;iterate 2 refine AX ?_
   refine .p rfl rfl (zA U186 rfl Z184 (tm rfl)) ?_;iterate 3 refine AX ?_
   refine .p rfl rfl (qA U30 Z3 (tm rfl) (tm rfl) aA (alZ (show i<at_.length by omega) hkk)) ?_;iterate 3 refine AX ?_
   refine .p rfl rfl (zB (tm rfl)) (.p rfl rfl (yU (tm rfl) zJ aA) (.p rfl rfl (qZ U9 (tm rfl) (tm rfl) (tm rfl) aA aA aA) (.p rfl rfl (yH U184 Z9 (tm rfl) (tm rfl) aA aA) (.s0 rfl (yQ AV.str ((row.take ((i:Int)+1).toNat).drop (i:Int).toNat) kk Z9 (tm rfl) (tm rfl) rfl rfl (oS _ _ _) aA aA) ?_))));rintro _ _ ⟨rfl,hH⟩;obtain rfl:=hH.symm;rw[sS,show((i:Int)+1).toNat=i+1 by omega,show(i:Int).toNat=i from rfl,ahP (show i<row.length by omega)];iterate 10 refine AX ?_
   refine Round.mk (J:=bcU l gr sc o b n row at_ ws H) ⟨i+1,_,by omega,by rw[bR];exact hql,by rw[←hinv,hdr,abN,aN (hz.symm.trans hc44)],rfl,rfl,rfl⟩ (zF rfl (zF rfl (zF rfl (zF rfl zW)))) (hRa _) aA
  try simp only[aL]at hc44
  refine AX ?_;refine AWP.draw [(0,true),(1,true),(2,true),(3,true),(4,true),(5,true),(6,true),(7,true),(8,true),(9,true),(10,true),(11,true),(12,true),(13,true)] rfl aE ?_;iterate 2 refine AX ?_
  refine .p rfl rfl (zA U186 rfl Z48 (tm rfl)) (.p rfl rfl (zA U48 rfl Z46 (tm rfl)) ?_);iterate 3 refine AX ?_
  refine .p rfl rfl (qA U30 Z3 (tm rfl) (tm rfl) aA (alZ (show i<at_.length by omega) hkk)) ?_;iterate 2 refine AX ?_
  refine .p rfl rfl (zA U78 rfl Z9 (tm rfl)) ?_;iterate 5 refine AX ?_
  refine AWP.cond (tm rfl) (λhc60=>?_) (λhc60=>?_)
  ·try simp only[aL]at hc60
   refine AWP.draw [(0,true),(1,true),(2,true),(3,true),(4,true),(5,true),(6,true),(7,true),(8,true),(9,false)] rfl aE ?_;iterate 2 refine AX ?_
   refine .p rfl rfl (zA U186 rfl Z184 (tm rfl)) ?_;refine AX ?_;refine .p rfl rfl (zB (tm rfl)) (.p rfl rfl (zB (tm rfl)) (.p rfl rfl (qA U30 Z3 (tm rfl) (tm rfl) aA (alZ (show i<at_.length by omega) hkk)) (.p rfl rfl (zX G3 (tm rfl)) (.p rfl rfl (yH U184 Z9 (tm rfl) (tm rfl) aA aA) (.s0 rfl (yQ AV.str [32] kk Z9 (tm rfl) (zS rfl) rfl rfl (oS _ _ _) aA aA) ?_)))));rintro _ _ ⟨rfl,hH⟩;obtain rfl:=hH.symm;rw[sS];iterate 10 refine AX ?_
   refine Round.mk (J:=bcU l gr sc o b n row at_ ws H) ⟨i+1,_,by omega,by rw[bR];exact hql,by rw[←hinv,hdr,abN,aM (by rw[←hz,hc44];simp),aN ((qG hkl).symm.trans hc60)],rfl,rfl,rfl⟩ (zF rfl (zF rfl (zF rfl (zF rfl zW)))) (hRa _) aA
  try simp only[aL]at hc60
  iterate 10 refine AX ?_
  refine Round.mk (J:=bcU l gr sc o b n row at_ ws H) ⟨i+1,_,by omega,hql,by rw[←hinv,hdr,abN,aM (by rw[←hz,hc44];simp),aM (λw=>hc60 ((qG hkl).trans w))],rfl,rfl,rfl⟩ (zF rfl (zF rfl (zF rfl (zF rfl zW)))) (hRa _) aA
 try simp only[aL]at hc12
 iterate 4 refine AX ?_
 refine Ret.go' .nil _ (hRa _) ?_;have hil:i=at_.length:=by omega
 subst hil;rw[dL,abN]at hinv;rw[hinv]
theorem auD(l:List ItN)(gr:Bool)(sc:Int)(o:Loc)(b n:Nat)(hs2:o.second=2∨o.second=3)(q:Nat)(hq:q≤1000000){z:Int}(hz:z=(q:Int)):Fn 207 [.iptr (acW l gr sc o b n),.int .i64 z] (.str (qV o gr q)):=by
 intro H;subst hz;exact awZ l gr sc o b n hs2 q hq H
theorem blO{row:List UInt8}{fst:Bool}{pl:Nat}(h:pl<row.length):(abO row fst pl).length=row.length-pl-(if fst then 0 else row.length-1-pl):=by
 unfold abO;rw[bC,aU];congr 1;omega
theorem bvL{row:List UInt8}{fst:Bool}{pl:Nat}(hi:i<(abO row fst pl).length):(abO row fst pl).getD i 0=row.getD ((if fst then 0 else row.length-1-pl)+i) 0:=by
 unfold abO at *;rw[bC,aU]at hi;rw[aS,aS,cV,dZ aA]
def whW(l:List ItN)(mk:Nat→List UInt8)(row:List UInt8)(at_:List Nat)(lead:Nat)(ws:List (List UInt8)):List (List UInt8):=
 if at_.length=0 then ws.set lead (aqV mk row 0++ws.getD lead [])else agW l mk row true false at_ ws
def bsY(l:List ItN)(gr:Bool)(sc:Int)(o:Loc)(b n:Nat)(row:List UInt8)(lead:Nat)(H:Heap):Nat→Env→Heap→Prop:=λk env H1=>∃i:Nat,i≤row.length∧env=[(0,.iptr (acW l gr sc o b n)),(1,.str row),(3,.int .i64 (lead:Int)),(9,.str (baD (qV o gr) row 0 i)),(10,.int .i64 (i:Int))]∧H=H1∧k=row.length-i
def bsX(l:List ItN)(gr:Bool)(sc:Int)(o:Loc)(b n:Nat)(row:List UInt8)(at_:List Nat)(ws:List (List UInt8))(H:Heap):Nat→Env→Heap→Prop:=λk env H1=>∃(i:Nat)(z:Bool)(q:List (List UInt8)),i≤at_.length∧q.length=n∧agW l (qV o gr) row (decide (i=0)) z (at_.drop i) q=agW l (qV o gr) row true false at_ ws∧env=[(0,.iptr (acW l gr sc o b n)),(1,.str row),(2,abB at_ .shared),(8,.int .i64 (at_.length:Int)),(11,.bool z),(12,.int .i64 (i:Int))]∧H1=H.set b (wdR q)∧k=at_.length-i
def bsW(l:List ItN)(gr:Bool)(sc:Int)(o:Loc)(b n:Nat)(row:List UInt8)(at_:List Nat)(z2:Bool)(i _ fr pl fst:Nat)(S:List UInt8)(H:Heap):Nat→Env→Heap→Prop:=λk env H1=>∃j:Nat,j≤S.length∧env=[(0,.iptr (acW l gr sc o b n)),(1,.str row),(2,abB at_ .shared),(8,.int .i64 (at_.length:Int)),(11,.bool z2),(12,.int .i64 (i:Int)),(15,.str (baD (qV o gr) S pl j)),(16,.int .i64 (fr:Int)),(18,.int .i64 ((fst+j:Nat):Int))]∧H=H1∧k=S.length-j
theorem adZ(l:List ItN)(gr:Bool)(sc:Int)(o:Loc)(b n:Nat)(row:List UInt8)(at_:List Nat)(ws:List (List UInt8))(lead:Nat)(ho:o.ok)(hs2:o.second=2∨o.second=3)(_:l.length≤100000)(hnl:n=l.length)(hpn:ws.length=n)(hat:∀k,k∈at_→k<l.length)(hal:at_.length≤100000)(hrl:row.length≤110000)(hld:at_.length=0→lead<l.length∧(ws.getD lead []).length≤1000)(H:Heap)(hb:H.objs b=some (wdR ws)):ACall prog 124 [.iptr (acW l gr sc o b n),.str row,abB at_ .shared,.int .i64 (lead:Int)] H (λ_ H'=>H'=H.set b (wdR (whW l (qV o gr) row at_ lead ws))):=by
 refine ACall.of_body func124 rfl ntmps124 results124 rfl ?_;iterate 14 refine AX ?_
 refine AWP.cond (tm rfl) (λhc22=>?_) (λhc22=>?_)
 ·try simp only[aL]at hc22
  iterate 12 refine AX ?_
  refine AWP.loopW (bsY l gr sc o b n row lead H) (row.length) ⟨0,Nat.zero_le _,rfl,rfl,rfl⟩ (zF rfl (zF rfl (zF rfl (zF rfl (zF rfl zW))))) (hRa _) ?_;rintro _ _ _ ⟨i,hi,rfl,rfl,rfl⟩;iterate 9 refine AX ?_
  refine AWP.cond (tm rfl) (λhc26=>?_) (λhc26=>?_)
  ·try simp only[aL]at hc26
   iterate 4 refine AX ?_
   refine AWP.draw [(0,true),(1,true),(2,true),(3,true),(4,true),(5,true),(6,true),(7,true),(8,true),(9,true),(10,true),(11,true),(12,true),(13,false),(14,true),(15,true)] rfl aE ?_;iterate 6 refine AX ?_
   refine .p rfl rfl (zQ (tm rfl) (tm rfl) (by rw[zN];have h1:=adF ho gr (0+(row.length-1-i));have h2:=alP (adF ho gr) row 0 i;simp only[bC,aU];omega)) ?_;iterate 6 refine AX ?_
   refine .s rfl rfl (zD call207 (evs2 rfl rfl) (auD l gr sc o b n hs2 (0+(row.length-1-i)) aA aA _)) ?_;rintro _ _ ⟨rfl,hH⟩;obtain rfl:=hH.symm;refine .p rfl rfl (zQ (tm rfl) (tm rfl) (by rw[zN];have h1:=adF ho gr (0+(row.length-1-i));have h2:=alP (adF ho gr) row 0 i;simp only[aR,bC,aU];omega)) ?_;iterate 10 refine AX ?_
   refine Round.mk (J:=bsY l gr sc o b n row lead H) ⟨i+1,by omega,rfl,rfl,rfl⟩ (zF rfl (zF rfl (zF rfl (zU rfl (by rw[baD,show((i:Int)+1).toNat=i+1 by omega,show(i:Int).toNat=i from rfl,ahP (show i<row.length by omega),bF];rfl) (zF rfl zW))))) (hRa _) aA
  try simp only[aL]at hc26
  iterate 6 refine AX ?_
  refine AWP.draw [(0,true),(1,true),(2,true),(3,true),(4,true),(5,true),(6,true),(7,true),(8,true),(9,true),(10,true),(11,true),(12,false),(13,true),(14,true),(15,false)] rfl aE ?_;iterate 2 refine AX ?_
  refine .p rfl rfl (zA U186 rfl Z184 (tm rfl)) ?_;iterate 2 refine AX ?_
  refine .p rfl rfl (zB (tm rfl)) (.p rfl rfl (zB (tm rfl)) (.p rfl rfl (aiT (tm rfl)) (.p rfl rfl (zA U186 rfl Z184 (tm rfl)) (.p rfl rfl (zX G184 (tm rfl)) (.p rfl rfl (zB (tm rfl)) (.p rfl rfl (yH U184 Z9 (tm rfl) (tm rfl) aA aA) ?_))))));refine .s rfl rfl (alJ AV.str [] lead G9 (tm rfl) hb aA (by have:=(hld aA).1;omega)) ?_;rintro _ _ ⟨rfl,hH⟩;obtain rfl:=hH.symm;refine .p rfl rfl (zQ (tm rfl) (tm rfl) (by rw[zN];have h2:=alP (adF ho gr) row 0 i;have h3:=(hld aA).2;omega)) ?_;refine .p rfl rfl (yH U184 Z9 (tm rfl) (tm rfl) aA aA) ?_;refine .s0 rfl (yQ AV.str (baD (qV o gr) row 0 i++ws.getD lead []) lead Z9 (tm rfl) (tm rfl) rfl rfl hb aA (by have:=(hld aA).1;omega)) ?_;rintro _ _ ⟨rfl,hH⟩;obtain rfl:=hH.symm;iterate 4 refine AX ?_
  refine Ret.go .nil _ (hRa _) ?_;unfold whW;rw[aK,show i=row.length by omega,bkA];rfl
 try simp only[aL]at hc22
 iterate 13 refine AX ?_
 refine AWP.loopW (bsX l gr sc o b n row at_ ws H) (at_.length) ⟨0,false,ws,Nat.zero_le _,hpn,rfl,rfl,(Heap.set_self hb).symm,rfl⟩ (zF rfl (zF rfl (zF rfl (zF rfl (zF rfl (zF rfl zW)))))) (hRa _) ?_;rintro _ _ _ ⟨i,z,q,hi,hql,hinv,rfl,rfl,rfl⟩;iterate 8 refine AX ?_
 refine AWP.cond (tm rfl) (λhc61=>?_) (λhc61=>?_)
 ·try simp only[aL]at hc61
  iterate 14 refine AX ?_
  have hkl:=afO hat (show i<at_.length by omega);have hdr:=amD (show i<at_.length by omega);obtain⟨kk,hkk⟩:∃kk,at_.getD i 0=kk:=⟨_,rfl⟩;rw[hkk]at hkl hdr;rw[hdr,agW,bC]at hinv;generalize hz2:(z||decide (aaV l kk=[48]))=z2 at hinv;generalize hpl:at_.length-(i+1)=pl at hinv;refine AWP.draw [(0,true),(1,true),(2,true),(3,true),(4,true),(5,true),(6,true),(7,true),(8,true),(9,true),(10,true),(11,true),(12,true)] rfl aE ?_;iterate 2 refine AX ?_
  refine .p rfl rfl (zA U186 rfl Z48 (tm rfl)) (.p rfl rfl (zA U48 rfl Z46 (tm rfl)) ?_);iterate 3 refine AX ?_
  refine .p rfl rfl (qA U30 Z3 (tm rfl) (tm rfl) aA (alZ (show i<at_.length by omega) hkk)) ?_;iterate 2 refine AX ?_
  refine .p rfl rfl (zA U78 rfl Z9 (tm rfl)) ?_;iterate 4 refine AX ?_
  refine AWP.seqTo 11 (.bool (z2)) [0,1,2,8,12,13,14] ?_ ?_
  ·iterate 3 refine AX ?_
   refine zC (t:=81) rfl (λhg81=>?_) (λhg81=>?_)
   ·have hh81:=hg81;try simp only[aL]at hh81
    iterate 5 refine AX ?_
    exact⟨rfl,zO rfl (by(refine Eq.symm ?_;first|(rw[←hz2,hh81];rfl)|(rw[←hz2,hh81,←qG hkl];rfl))) (zF rfl (zF rfl (zF rfl (zF rfl (zF rfl (zF rfl (zF rfl zW))))))),rfl⟩
   have hh81:=hg81;try simp only[aL]at hh81
   iterate 5 refine AX ?_
   exact⟨rfl,zO rfl (by(refine Eq.symm ?_;first|(rw[←hz2,hh81];rfl)|(rw[←hz2,hh81,←qG hkl];rfl))) (zF rfl (zF rfl (zF rfl (zF rfl (zF rfl (zF rfl (zF rfl zW))))))),rfl⟩
  refine AWP.sub [(11,_),(0,_),(1,_),(2,_),(8,_),(12,_),(13,_),(14,_)] (zF rfl (zF rfl (zF rfl (zF rfl (zF rfl (zF rfl (zF rfl (zF rfl zW)))))))) ?_;iterate 15 refine AX ?_
  refine AWP.meet (λenv H2=>env=[(0,.iptr (acW l gr sc o b n)),(1,.str row),(2,abB at_ .shared),(8,.int .i64 (at_.length:Int)),(11,.bool z2),(12,.int .i64 (i:Int)),(15,.str (if pl<row.length then aqV (qV o gr) (abO row (decide (i=0)) pl) pl else if z2=true then 48::qV o gr pl else if aaV l kk=[63]then [32]else []))]∧H2=H.set b (wdR q)) ?_ ?_
  ·iterate 8 refine AX ?_
   refine AWP.cond (tm rfl) (λhc90=>?_) (λhc90=>?_)
   ·try simp only[aL]at hc90
    iterate 6 refine AX ?_
    refine AWP.seqToL [(17,.int .i64 (((if decide (i=0)=true then 0 else row.length-1-pl):Nat):Int))] [11,0,1,2,8,12,13,14,15,16] ?_ ?_
    ·iterate 6 refine AX ?_
     refine AWP.cond (tm rfl) (λhc95=>?_) (λhc95=>?_)
     ·try simp only[aL]at hc95
      iterate 3 refine AX ?_
      exact⟨rfl,(zU rfl (by(rw[aN (aQ (show i=0 by omega))];rfl)) (zF rfl (zF rfl (zF rfl (zF rfl (zF rfl (zF rfl (zF rfl (zF rfl (zF rfl (zF rfl zW))))))))))),rfl⟩
     try simp only[aL]at hc95
     refine AX ?_;exact⟨rfl,(zU rfl (by(rw[aM (show¬decide (i=0)=true from λw=>hc95 (by have:=of_decide_eq_true w;omega))];congr 1;omega)) (zF rfl (zF rfl (zF rfl (zF rfl (zF rfl (zF rfl (zF rfl (zF rfl (zF rfl (zF rfl zW))))))))))),rfl⟩
    refine AWP.sub [(17,_),(11,_),(0,_),(1,_),(2,_),(8,_),(12,_),(13,_),(14,_),(15,_),(16,_)] (zF rfl (zF rfl (zF rfl (zF rfl (zF rfl (zF rfl (zF rfl (zF rfl (zF rfl (zF rfl (zF rfl zW))))))))))) ?_;refine AX ?_;have hSl:=blO (fst:=decide (i=0)) (show pl<row.length by omega);have hfs:(if decide (i=0)=true then 0 else row.length-1-pl)≤row.length-1-pl:=by split<;>omega
    generalize hfst:(if decide (i=0)=true then 0 else row.length-1-pl)=fst at *;iterate 6 refine AX ?_
    refine AWP.loopW (bsW l gr sc o b n row at_ z2 i kk (row.length-1-pl) pl fst (abO row (decide (i=0)) pl) (H.set b (wdR q))) ((abO row (decide (i=0)) pl).length) ⟨0,Nat.zero_le _,rfl,rfl,rfl⟩ (zF rfl (zF rfl (zF rfl (zF rfl (zF rfl (zF rfl (zF rfl (zU rfl (by congr 1;omega) (zF rfl zW))))))))) (hRa _) ?_;rintro _ _ _ ⟨j,hj,rfl,rfl,rfl⟩;iterate 8 refine AX ?_
    refine AWP.cond (tm rfl) (λhc99=>?_) (λhc99=>?_)
    ·try simp only[aL]at hc99
     iterate 4 refine AX ?_
     refine AWP.draw [(0,true),(1,true),(2,true),(3,true),(4,true),(5,true),(6,true),(7,true),(8,true),(9,true),(10,true),(11,true),(12,true),(13,false),(14,true),(15,true)] rfl aE ?_;iterate 6 refine AX ?_
     refine .p rfl rfl (zQ (tm rfl) (tm rfl) (by rw[zN];have h1:=adF ho gr (pl+((abO row (decide (i=0)) pl).length-1-j));have h2:=alP (adF ho gr) (abO row (decide (i=0)) pl) pl j;simp only[bC,aU];omega)) ?_;iterate 6 refine AX ?_
     refine .s rfl rfl (zD call207 (evs2 rfl rfl) (auD l gr sc o b n hs2 (pl+((abO row (decide (i=0)) pl).length-1-j)) aA aA _)) ?_;rintro _ _ ⟨rfl,hH⟩;obtain rfl:=hH.symm;refine .p rfl rfl (zQ (tm rfl) (tm rfl) (by rw[zN];have h1:=adF ho gr (pl+((abO row (decide (i=0)) pl).length-1-j));have h2:=alP (adF ho gr) (abO row (decide (i=0)) pl) pl j;simp only[aR,bC,aU];omega)) ?_;iterate 10 refine AX ?_
     refine Round.mk (J:=bsW l gr sc o b n row at_ z2 i kk (row.length-1-pl) pl fst (abO row (decide (i=0)) pl) (H.set b (wdR q))) ⟨j+1,by omega,rfl,rfl,rfl⟩ (zF rfl (zF rfl (zF rfl (zF rfl (zF rfl (zF rfl (zU rfl (by rw[baD,show(((fst+j:Nat):Int)+1).toNat=fst+j+1 by omega,show((fst+j:Nat):Int).toNat=fst+j from rfl,ahP (show fst+j<row.length by omega),bvL (show j<(abO row (decide (i=0)) pl).length by omega),hfst,bF];rfl) (zF rfl (zU rfl (by congr 1) zW))))))))) (hRa _) aA
    try simp only[aL]at hc99
    iterate 6 refine AX ?_
    refine Meets.mk (M:=λenv H2=>env=[(0,.iptr (acW l gr sc o b n)),(1,.str row),(2,abB at_ .shared),(8,.int .i64 (at_.length:Int)),(11,.bool z2),(12,.int .i64 (i:Int)),(15,.str (if pl<row.length then aqV (qV o gr) (abO row (decide (i=0)) pl) pl else if z2=true then 48::qV o gr pl else if aaV l kk=[63]then [32]else []))]∧H2=H.set b (wdR q)) ⟨rfl,rfl⟩ (zF rfl (zF rfl (zF rfl (zF rfl (zF rfl (zF rfl (zU rfl (by(rw[aN (show pl<row.length by omega),show j=(abO row (decide (i=0)) pl).length by omega,bkA];done)) zW))))))) (hRa _)
   try simp only[aL]at hc90
   iterate 6 refine AX ?_
   refine AWP.cond (tm rfl) (λhc117=>?_) (λhc117=>?_)
   ·try simp only[aL]at hc117
    iterate 3 refine AX ?_
    refine .cl rfl call207 (evs2 rfl rfl) (auD l gr sc o b n hs2 pl aA aA _) ?_;refine .p rfl (zQ (zS rfl) (tm rfl) (by rw[zN];have h1:=adF ho gr pl;simp only[aX,aY];omega)) ?_;iterate 4 refine AX ?_
    refine Meets.mk (M:=λenv H2=>env=[(0,.iptr (acW l gr sc o b n)),(1,.str row),(2,abB at_ .shared),(8,.int .i64 (at_.length:Int)),(11,.bool z2),(12,.int .i64 (i:Int)),(15,.str (if pl<row.length then aqV (qV o gr) (abO row (decide (i=0)) pl) pl else if z2=true then 48::qV o gr pl else if aaV l kk=[63]then [32]else []))]∧H2=H.set b (wdR q)) ⟨rfl,rfl⟩ (zF rfl (zF rfl (zF rfl (zF rfl (zF rfl (zF rfl (zU rfl (by(rw[aM (show¬pl<row.length by omega),aN aB];rfl)) zW))))))) (hRa _)
   try simp only[aL]at hc117
   iterate 7 refine AX ?_
   refine AWP.cond (tm rfl) (λhc123=>?_) (λhc123=>?_)
   ·try simp only[aL]at hc123
    iterate 5 refine AX ?_
    refine Meets.mk (M:=λenv H2=>env=[(0,.iptr (acW l gr sc o b n)),(1,.str row),(2,abB at_ .shared),(8,.int .i64 (at_.length:Int)),(11,.bool z2),(12,.int .i64 (i:Int)),(15,.str (if pl<row.length then aqV (qV o gr) (abO row (decide (i=0)) pl) pl else if z2=true then 48::qV o gr pl else if aaV l kk=[63]then [32]else []))]∧H2=H.set b (wdR q)) ⟨rfl,rfl⟩ (zF rfl (zF rfl (zF rfl (zF rfl (zF rfl (zF rfl (zU rfl (by(rw[aM (show¬pl<row.length by omega),aM (show¬z2=true by simp[hc117]),aN ((qG hkl).symm.trans hc123)];done)) zW))))))) (hRa _)
   try simp only[aL]at hc123
   iterate 3 refine AX ?_
   refine Meets.mk (M:=λenv H2=>env=[(0,.iptr (acW l gr sc o b n)),(1,.str row),(2,abB at_ .shared),(8,.int .i64 (at_.length:Int)),(11,.bool z2),(12,.int .i64 (i:Int)),(15,.str (if pl<row.length then aqV (qV o gr) (abO row (decide (i=0)) pl) pl else if z2=true then 48::qV o gr pl else if aaV l kk=[63]then [32]else []))]∧H2=H.set b (wdR q)) ⟨rfl,rfl⟩ (zF rfl (zF rfl (zF rfl (zF rfl (zF rfl (zF rfl (zU rfl (by(rw[aM (show¬pl<row.length by omega),aM (show¬z2=true by simp[hc117]),aM (λw=>hc123 ((qG hkl).trans w))];done)) zW))))))) (hRa _)
  rintro _ _ ⟨rfl,rfl⟩;refine AWP.draw [(0,true),(1,true),(2,true),(3,true),(4,true),(5,true),(6,true),(7,true),(8,true),(9,true),(10,false)] rfl aE ?_;iterate 2 refine AX ?_
  refine .p rfl rfl (zA U186 rfl Z184 (tm rfl)) ?_;iterate 2 refine AX ?_
  refine .p rfl rfl (zB (tm rfl)) (.p rfl rfl (qA U30 Z3 (tm rfl) (tm rfl) aA (alZ (show i<at_.length by omega) hkk)) (.p rfl rfl (zX G3 (tm rfl)) (.p rfl rfl (zB (tm rfl)) (.p rfl rfl (yH U184 Z9 (tm rfl) (tm rfl) aA aA) ?_))));refine .s0 rfl (yQ AV.str (if pl<row.length then aqV (qV o gr) (abO row (decide (i=0)) pl) pl else if z2=true then 48::qV o gr pl else if aaV l kk=[63]then [32]else []) kk Z9 (tm rfl) (tm rfl) rfl rfl (oS _ _ _) aA aA) ?_;rintro _ _ ⟨rfl,hH⟩;obtain rfl:=hH.symm;rw[sS];iterate 9 refine AX ?_
  refine Round.mk (J:=bsX l gr sc o b n row at_ ws H) ⟨i+1,z2,_,by omega,by rw[bR];exact hql,by rw[show decide (i+1=0)=false by simp,←hinv],rfl,rfl,rfl⟩ (zF rfl (zF rfl (zF rfl (zF rfl (zF rfl (zF rfl zW)))))) (hRa _) aA
 try simp only[aL]at hc61
 iterate 4 refine AX ?_
 refine Ret.go' .nil _ (hRa _) ?_;have hil:i=at_.length:=by omega
 subst hil;rw[dL,agW]at hinv;unfold whW;rw[aJ,hinv]
end
end Go.Proofs.YteedncdcbgplfaaGreatDoor
