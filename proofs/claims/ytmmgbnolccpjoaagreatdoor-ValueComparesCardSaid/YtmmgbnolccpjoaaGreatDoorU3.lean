import Derived.Test.YtmmgbnolccpjoaaGreatDoorU2
set_option maxHeartbeats 1000000
namespace Go.Proofs.YtmmgbnolccpjoaaGreatDoor
open Go.Proofs.Tryz
open Go Go.RowKit
section
set_option maxRecDepth 100000
def EntN.zero:EntN:=⟨0,0,0,false,false⟩
def aeI(l:Loc)(u:List UInt8):Option (List UInt8×Bool):=
 if Lib.hasPrefix u [40]=true then(if Lib.hasSuffix (Lib.trimPrefix u [40]) [41]=true then some (aaQ zQ (Lib.trimSuffix (Lib.trimPrefix u [40]) [41]),true)else none)
 else some (qU zQ (yE l u).1.length (yE l u).1,(yE l u).2)
def bbM(l:Loc)(v:List UInt8)(neg:Bool):EntN×Int:=
 match arJ l (adG l v).2.1 with
 |none=>(EntN.zero,3)
 |some (d,e,k,gr,x)=>
  if(mkN neg d (e+(adG l v).2.2)).2≠0 then(EntN.zero,2)
  else if zK (akQ (mkN neg d (e+(adG l v).2.2)).1.1 (mkN neg d (e+(adG l v).2.2)).1.2.1 (mkN neg d (e+(adG l v).2.2)).1.2.2)=3 then(EntN.zero,2)
  else(⟨akQ (mkN neg d (e+(adG l v).2.2)).1.1 (mkN neg d (e+(adG l v).2.2)).1.2.1 (mkN neg d (e+(adG l v).2.2)).1.2.2,(adG l v).1,k,gr,x⟩,0)
def acB(l:Loc)(u:List UInt8):EntN×Int:=match aeI l u with|none=>(EntN.zero,3)|some (v,neg)=>bbM l v neg
theorem auJ{l:Loc}{s d:List UInt8}{e:Int}{k:Nat}{gr x:Bool}(h:arJ l s=some (d,e,k,gr,x)):Digs d∧d.length≤2*s.length∧e≤2000000000∧ -1000000000-(s.length:Int)≤e:=by
 unfold arJ at h;cases hh:alP l s with
 |none=>rw[hh]at h;cases h
 |some q=>
  obtain⟨t,n,y⟩:=q;rw[hh]at h;simp only at h;cases hb:aoM l t with
  |none=>rw[hb]at h;cases h
  |some q=>
   obtain⟨d2,k2,g2⟩:=q;rw[hb]at h;injection h with h
   injection h with h1 h2
   injection h2 with h2 h3
   subst h1;subst h2;have a:=ayM hh;have b:=btB hb;exact⟨b.1,by omega,by omega,by omega⟩
theorem clC(l:Loc)(s:List UInt8): -2≤(adG l s).2.2∧(adG l s).2.2≤0:=by
 unfold adG
 repeat' split
 all_goals simp
theorem bbX(neg:Bool)(ds:List UInt8)(e:Int):akQ neg ds e<18446744073709551616:=by
 have:=blW ds e;unfold akQ qG;split<;>omega
theorem avW(l:Loc)(hk:l.ok)(hg:l.grp≠[])(f:Nat→List AV)(hf:ROK f)(s:List UInt8)(hs:s.length≤1000)(b:Nat)(H:Heap)(hb:H.objs b=some (.box 189 (aaR f))):ACall prog 38 [erA l b,.str s] H (λy H'=>y= .tuple [.agg (acB l (aaQ zQ s)).1.cs,.int .i64 (acB l (aaQ zQ s)).2]∧∃f',ROK f'∧H'=H.set b (.box 189 (aaR f'))):=by
 have htl:=asO zQ s;refine .of_body func38 rfl ntmps38 results38 rfl ?_;iterate 2 refine AX ?_
 refine .al zr76 (λb4 hb4=>?_);iterate 11 refine AX ?_
 refine .cond_false (tm rfl) (by exact bB aA) ?_;iterate 5 refine AX ?_
 refine .cl rfl call91 (.cons (tm rfl) (.cons (.func _) .nil)) (trimFuncA s _) ?_;iterate 6 refine AX ?_
 refine .cl rfl C93 (.cons (tm rfl) (.cons (zO rfl) .nil)) (cutPrefixA _ _ _) ?_;iterate 7 refine AX ?_
 refine .meet (λenv H2=>∃(v:List UInt8)(neg:Bool),aeI l (aaQ zQ s)=some (v,neg)∧v.length≤1000∧env=[(0,erA l b),(4,.ptr (some ⟨b4,0,none⟩)),(5,.int .i64 0),(6,.str v),(7,.bool neg)]∧H2=H.set b4 (.box 76 (EntN.cs EntN.zero))) ?_ ?_
 ·iterate 5 refine AX ?_
  refine .cx rfl (λhc25=>?_) (λhc25=>?_)
  ·iterate 9 refine AX ?_
   refine .cl rfl call94 (.cons (tm rfl) (.cons (zO rfl) .nil)) (cutSuffixA _ _ _) ?_;iterate 13 refine AX ?_
   refine .cx rfl (λhc32=>?_) (λhc32=>?_)
   ·have hin:aeI l (aaQ zQ s)=none:=by unfold aeI;rw[aN hc25,aL (by simpa using hc32)]
    iterate 2 refine AX ?_
    refine .p rfl (zX zr76 pl76 .nil rfl) ?_;iterate 4 refine AX ?_
    refine .frz (t:=4) rfl hb4 ?_;iterate 4 refine AX ?_
    refine⟨?_,f,hf,(Heap.set_self hb).symm⟩;unfold acB;rw[hin];rfl
   have hin:aeI l (aaQ zQ s)=some (aaQ zQ (Lib.trimSuffix (Lib.trimPrefix (aaQ zQ s) [40]) [41]),true):=by unfold aeI;rw[aN hc25,aN (by simpa using hc32)]
   iterate 4 refine AX ?_
   refine .cl rfl call91 (.cons (tm rfl) (.cons (.func _) .nil)) (trimFuncA _ _) ?_;iterate 3 refine AX ?_
   refine .mk ⟨_,true,hin,by have:=asO zQ (Lib.trimSuffix (Lib.trimPrefix (aaQ zQ s) [40]) [41]);have:=aeN (Lib.trimPrefix (aaQ zQ s) [40]) [41];have:=aeO (aaQ zQ s) [40];omega,rfl,rfl⟩ (zI rfl (zI rfl (zI rfl (zI rfl (zM rfl (by(rw[show Lib.hasPrefix (aaQ zQ s) [40]=true from hc25])) yJ))))) (hRa _)
  have hin:aeI l (aaQ zQ s)=some (qU zQ (yE l (aaQ zQ s)).1.length (yE l (aaQ zQ s)).1,(yE l (aaQ zQ s)).2):=by unfold aeI;rw[aL (by simp[hc25])]
  iterate 4 refine AX ?_
  refine .cl rfl call95 (evs2 rfl rfl) (axH l b _ _) ?_;iterate 9 refine AX ?_
  refine .cl rfl C96 (.cons (tm rfl) (.cons (.func _) .nil)) (trimLeftFuncA _ _) ?_;iterate 3 refine AX ?_
  refine .mk ⟨_,_,hin,by have:=acZ zQ (yE l (aaQ zQ s)).1.length (yE l (aaQ zQ s)).1;have:=anF l (aaQ zQ s);omega,rfl,rfl⟩ (zI rfl (zI rfl (zI rfl (zI rfl (zM rfl aD yJ))))) (hRa _)
 rintro _ _ ⟨v,neg,hin,hvl,rfl,rfl⟩;have hh4:=hb4;iterate 2 refine AX ?_
 refine .al zr76 (λb9 hb9=>?_);have hn4_9:=Heap.ne_of (oS _ _ _) hb9;iterate 3 refine AX ?_
 have h4b:b4≠b:=by intro q;rw[←q,hb4]at hb;cases hb
 have hb90:H.objs b9=none:=by have q:=hb9;rw[oN _ _ hn4_9.symm]at q;exact q
 have h9b:b9≠b:=by intro q;rw[←q,hb90]at hb;cases hb
 have hal:=cfB l v;have hsh:=clC l v;iterate 3 refine AX ?_
 refine .s rfl (zB call97 (evs3 rfl rfl rfl) (bgP l hk hg b v hvl EntN.zero ⟨rfl,rfl⟩ rfl b9 _ (oS _ _ _))) ?_;rintro _ _ ⟨p,o1,rfl,rfl,hp⟩;rw[sS];iterate 3 refine AX ?_
 refine .al zr130 (λb10 hb10=>?_);have hn4_10:=Heap.ne_of (oS _ _ _) hb10;have hn9_10:=Heap.ne_of (oS _ _ _) hb10;iterate 4 refine AX ?_
 refine .frz (t:=10) rfl (hb10) ?_;iterate 7 refine AX ?_
 refine .cx rfl (λhc51=>?_) (λhc51=>?_)
 ·have hnn:arJ l (adG l v).2.1=none:=by simpa using hc51
  iterate 2 refine AX ?_
  refine .p rfl (zX zr76 pl76 .nil rfl) ?_;iterate 4 refine AX ?_
  refine .dropb (fS hb9 _) ?_;refine .frz (t:=4) rfl hb4 ?_;iterate 3 refine AX ?_
  refine⟨?_,f,hf,(Heap.set_self hb).symm⟩;unfold acB;rw[hin];show _=AV.tuple [.agg (bbM l v neg).1.cs,.int .i64 (bbM l v neg).2];have hfp:bbM l v neg=(EntN.zero,3):=by
   unfold bbM;rw[hnn]
  rw[hfp];rfl
 obtain⟨⟨d,e,k,gr,x⟩,hnn⟩:=gI.1 (show(arJ l (adG l v).2.1).isSome=true by simpa using hc51);obtain⟨rfl,rfl⟩:=hp _ hnn;obtain⟨hdd,hdl,he2,he3⟩:=auJ hnn;iterate 5 refine AX ?_
 refine .p rfl (zA U130 rfl Z9 (tm rfl)) ?_;refine AX ?_;refine .p rfl (zA U130 rfl Z3 (tm rfl)) ?_;refine AX ?_;refine .cl rfl call98 (evs3 rfl rfl rfl) (aqD neg d (e+(adG l v).2.2) hdd aA (by constructor<;>omega) _) ?_;iterate 3 refine AX ?_
 refine .al zr58 (λb12 hb12=>?_);have hn4_12:=Heap.ne_of (oS _ _ _) hb12;have hn9_12:=Heap.ne_of (oS _ _ _) hb12;iterate 4 refine AX ?_
 refine .frz (t:=12) rfl (hb12) ?_;iterate 7 refine AX ?_
 refine .cx rfl (λhc63=>?_) (λhc63=>?_)
 ·have hm0:(mkN neg d (e+(adG l v).2.2)).2≠0:=by simpa using hc63
  iterate 2 refine AX ?_
  refine .p rfl (zX zr76 pl76 .nil rfl) ?_;iterate 4 refine AX ?_
  refine .dropb (fS hb9 _) ?_;refine .frz (t:=4) rfl hb4 ?_;iterate 3 refine AX ?_
  refine⟨?_,f,hf,(Heap.set_self hb).symm⟩;unfold acB;rw[hin];show _=AV.tuple [.agg (bbM l v neg).1.cs,.int .i64 (bbM l v neg).2];have hfp:bbM l v neg=(EntN.zero,2):=by
   unfold bbM;rw[hnn];simp only;rw[aN hm0]
  rw[hfp];rfl
 have hm0:¬(mkN neg d (e+(adG l v).2.2)).2≠0:=by simpa using hc63
 iterate 4 refine AX ?_
 refine .draw [(0,true),(1,true),(2,true),(3,true),(4,true),(5,false),(6,true),(7,true),(8,true),(9,true),(10,false)] rfl aE ?_;iterate 2 refine AX ?_
 refine .p rfl rfl (zA U123 rfl sizeOf120 (tm rfl)) ?_;iterate 2 refine AX ?_
 refine .s rfl rfl (zB call99 (evs2 rfl rfl) (biP f hf (mkN neg d (e+(adG l v).2.2)).1.1 (mkN neg d (e+(adG l v).2.2)).1.2.1 (mkN neg d (e+(adG l v).2.2)).1.2.2 (alC hdd) b _ ((oN _ _ h9b.symm).trans ((oN _ _ h4b.symm).trans hb)))) ?_;rintro _ _ ⟨rfl,f1,hf1,rfl⟩;rw[Heap.set_comm h9b,Heap.set_comm h4b];iterate 3 refine AX ?_
 refine .p rfl rfl (zD U76 rfl Z22 (tm rfl)) (.s0 rfl (zN Z22 (tm rfl) (tm rfl) rfl rfl (.inl rfl) (oS _ _ _) (lB rfl)) ?_);rintro _ _ ⟨rfl,hH⟩;obtain rfl:=hH.symm;try first|rw[sS]|rw[sU aB]
 iterate 4 refine AX ?_
 refine .p rfl (zD U76 rfl Z22 (tm rfl)) ?_;refine AX ?_;refine .cl rfl C89 (evs1 rfl) (aaA (akQ (mkN neg d (e+(adG l v).2.2)).1.1 (mkN neg d (e+(adG l v).2.2)).1.2.1 (mkN neg d (e+(adG l v).2.2)).1.2.2) (bbX _ _ _) _) ?_;iterate 3 refine AX ?_
 refine .cx rfl (λhc78=>?_) (λhc78=>?_)
 ·have hk3:zK (akQ (mkN neg d (e+(adG l v).2.2)).1.1 (mkN neg d (e+(adG l v).2.2)).1.2.1 (mkN neg d (e+(adG l v).2.2)).1.2.2)=3:=by omega
  iterate 2 refine AX ?_
  refine .p rfl (zX zr76 pl76 .nil rfl) ?_;iterate 4 refine AX ?_
  refine .dropb ((oN _ _ hn4_9.symm).trans ((oN _ _ h9b).trans hb90)) ?_;refine .frz (t:=4) rfl ((oN _ _ h4b).trans hb4) ?_;iterate 3 refine AX ?_
  refine⟨?_,f1,hf1,rfl⟩;unfold acB;rw[hin];show _=AV.tuple [.agg (bbM l v neg).1.cs,.int .i64 (bbM l v neg).2];have hfp:bbM l v neg=(EntN.zero,2):=by
   unfold bbM;rw[hnn];simp only;rw[aL hm0,aN hk3]
  rw[hfp];rfl
 have hk3:¬zK (akQ (mkN neg d (e+(adG l v).2.2)).1.1 (mkN neg d (e+(adG l v).2.2)).1.2.1 (mkN neg d (e+(adG l v).2.2)).1.2.2)=3:=by omega
 iterate 9 refine AX ?_
 refine .dropb ((oN _ _ hn4_9.symm).trans ((oN _ _ h9b).trans hb90)) ?_;refine .frz (t:=4) rfl ((oN _ _ h4b).trans hb4) ?_;iterate 2 refine AX ?_
 refine⟨?_,f1,hf1,rfl⟩;unfold acB;rw[hin];show _=AV.tuple [.agg (bbM l v neg).1.cs,.int .i64 (bbM l v neg).2];have hfp:bbM l v neg=(⟨(akQ (mkN neg d (e+(adG l v).2.2)).1.1 (mkN neg d (e+(adG l v).2.2)).1.2.1 (mkN neg d (e+(adG l v).2.2)).1.2.2),(adG l v).1,k,gr,x⟩,0):=by
  unfold bbM;rw[hnn];simp only;rw[aL hm0,aL hk3]
 rw[hfp];rfl
end
theorem brV{x:Nat}(h:x<amY):zK x≤2:=by
 unfold amY at h;unfold zK
 repeat' split
 all_goals omega
theorem bxW{x:Nat}(neg:Bool)(h:x≤amY):zK (qG neg+x)≤3:=by
 unfold amY at h;unfold zK qG
 repeat' split
 all_goals omega
theorem buE:∀i:Fin 23,zK (chP i.1)≤2:=by decide+kernel
theorem bnG{p q:Nat}(hp:p≤2)(hq:q≤2):brI (ajR p) (ajR q)≠1∧brI (ajR p) (ajR q)≠5:=by
 rcases(by omega:p=0∨p=1∨p=2)with rfl|rfl|rfl<;>rcases(by omega:q=0∨q=1∨q=2)with rfl|rfl|rfl<;>decide
theorem cdQ{a b:Nat}(ha:a<9223372036854775808)(hb:b<9223372036854775808)(hka:zK a≤2)(hkb:zK b≤2):afD a b≤amY:=by
 have hn:aeH a b=false:=by
  unfold aeH;refine bB ?_;rw[bW (show a<2^63 from ha),bW (show b<2^63 from hb)];simp
 unfold afD;rw[aL (bnG hka hkb).1,aL (bnG hka hkb).2,hn];exact adJ _ _ _
theorem byK{m:Nat}(hm:m<10^15):zK (zV false m 0 false)≤2:=by
 refine brV ?_;rcases bJ m with h|h
 ·subst h;decide+kernel
 have h1:=aiF (n1:=m) (n2:=10^15) (e:=0) (m1:=false) (m2:=false) aC aC h (.inl hm);have h2:zV false (10^15) 0 false<amY:=by decide+kernel
 exact aU h1 h2
theorem buQ{ds:List UInt8}(hd:Digs ds)(e:Int):akB ds e≤amY:=by
 have hs:asS (num ds) e≤amY:=by
  unfold asS bdY;split<;>exact adJ _ _ _
 unfold akB;split
 ·exact Nat.zero_le _
 split
 ·exact aV _
 split
 ·split
  ·rename_i h
   have hm:num ds<10^15:=bM (aiN hd) (aW aC h.1);exact cdQ (aU (adJ _ _ _) aC) (bhO _) (byK hm) (buE ⟨e.toNat,by omega⟩)
  split
  ·exact adJ _ _ _
  exact hs
 exact hs
theorem bzX(l:Loc)(s:List UInt8):0≤(adG l s).1∧(adG l s).1≤2:=by
 unfold adG
 repeat' split
 all_goals simp
theorem bsM(l:Loc)(u:List UInt8):((acB l u).2≠0→(acB l u).1=EntN.zero)∧((acB l u).2=0→zK (acB l u).1.bits≤2∧(acB l u).1.bits<18446744073709551616∧0≤(acB l u).1.places∧0≤(acB l u).1.kind∧(acB l u).1.kind≤2):=by
 unfold acB;cases hi:aeI l u with
 |none=>exact⟨λ_=>rfl,λh=>by cases h⟩
 |some q=>
  obtain⟨v,neg⟩:=q;simp only;unfold bbM;cases hn:arJ l (adG l v).2.1 with
  |none=>exact⟨λ_=>rfl,λh=>by cases h⟩
  |some r=>
   obtain⟨d,e,k,gr,x⟩:=r;simp only;split
   ·exact⟨λ_=>rfl,λh=>by cases h⟩
   split
   ·exact⟨λ_=>rfl,λh=>by cases h⟩
   rename_i hk
   have hd:=(auJ hn).1;have hr:=qJ (alC (neg:=neg) (e:=e+(adG l v).2.2) hd);have h3:=bxW (mkN neg d (e+(adG l v).2.2)).1.1 (buQ hr (mkN neg d (e+(adG l v).2.2)).1.2.2);have ha:=bzX l v;refine⟨λh=>absurd rfl h,λ_=>⟨?_,bbX _ _ _,cM k,ha.1,ha.2⟩⟩;show zK (akQ _ _ _)≤2;unfold akQ at hk ⊢;omega
theorem aaE:∀l∈locs,l.grp≠[]:=by
 intro l hl;simp only[locs,cP,eW,or_false]at hl;rcases hl with rfl|rfl|rfl|rfl|rfl|rfl<;>simp
end Go.Proofs.YtmmgbnolccpjoaaGreatDoor
