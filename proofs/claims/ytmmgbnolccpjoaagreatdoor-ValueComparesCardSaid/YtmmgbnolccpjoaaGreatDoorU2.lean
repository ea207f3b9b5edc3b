import Derived.Test.YtmmgbnolccpjoaaGreatDoorU1
set_option maxHeartbeats 1000000
namespace Go.Proofs.YtmmgbnolccpjoaaGreatDoor
open Go.Proofs.Tryz
open Go Go.RowKit
variable{l:Loc}{d:List UInt8}
section
set_option maxRecDepth 100000
theorem zr76:ZR 76 [.int .u64 0,.int .i64 0,.int .i64 0,.bool false,.bool false]:=ZRi zeroValue76
theorem pl76:PL 76 [(0,1),(1,1),(2,1),(3,1),(4,1)]:=PLi U76
theorem zr130:ZR 130 [.str [],.int .i64 0]:=ZRi zeroValue130
structure EntN where
 bits:Nat
 kind:Int
 places:Int
 grouped:Bool
 exp:Bool
def EntN.cs(o:EntN):List AV:=[.int .u64 (o.bits:Int),.int .i64 o.kind,.int .i64 o.places,.bool o.grouped,.bool o.exp]
structure PartN where
 digits:List UInt8
 exp:Int
def PartN.av(p:PartN):AV:=.agg [.str p.digits,.int .i64 p.exp]
def eAt(s:List UInt8):Int:=Lib.indexByte (Lib.replaceAll s [69] [101]) 101
def alP(l:Loc)(s:List UInt8):Option (List UInt8×Int×Bool):=
 if 0≤eAt s then(match bfZ l (s.drop ((eAt s).toNat+1))with|some n=>some (s.take (eAt s).toNat,n,true)|none=>none)else some (s,0,false)
def acU(l:Loc)(w:List UInt8):Option (List UInt8×Bool):=
 if w=[]then some ([],false)else match adW l w with|none=>none|some d=>some (d,!decide (d=w))
def ceW(a b:List UInt8):Bool:=(decide (a=[])&&decide (b=[]))||decide (qU afM b.length b≠[])
def aoM(l:Loc)(s:List UInt8):Option (List UInt8×Nat×Bool):=
 if ceW (Lib.cut s l.dc).1 (Lib.cut s l.dc).2.1=true then none
 else match acU l (Lib.cut s l.dc).1 with|none=>none|some (d,g)=>some (d++(Lib.cut s l.dc).2.1,(Lib.cut s l.dc).2.1.length,g)
def arJ(l:Loc)(s:List UInt8):Option (List UInt8×Int×Nat×Bool×Bool):=
 match alP l s with
 |none=>none
 |some (t,n,x)=>match aoM l t with|none=>none|some (d,k,g)=>some (d,n-k,k,g,x)
theorem bsL{s:List UInt8}{n:Int}(h:bfZ l s=some n): -1000000000<n∧n<1000000000:=by
 unfold bfZ at h;split at h
 ·rename_i hc
  have h9:=ciZ (aeX.1 hc.2.1) hc.2.2;injection h with h
  subst h;split<;>omega
 cases h
theorem auF{s:List UInt8}(h:adW l s=some d):Digs d∧d.length≤s.length∧d≠[]:=by
 unfold adW at h;split at h
 ·cases h
 rename_i hc
 split at h
 ·cases h
 injection h with h
 subst h;refine⟨?_,bmK _ _,λq=>hc (.inl q)⟩;rcases Bool.eq_false_or_eq_true (ayX (Lib.replaceAll s l.grp []))with q|q
 ·exact aeX.1 q
 exact absurd (.inr q) hc
theorem asK{w:List UInt8}{gr:Bool}(h:acU l w=some (d,gr)):Digs d∧d.length≤w.length:=by
 unfold acU at h;split at h
 ·injection h with h
  injection h with h1 h2
  subst h1;exact⟨λb hb=>by simp at hb,Nat.zero_le _⟩
 cases hp:adW l w with
 |none=>rw[hp]at h;cases h
 |some q=>
  rw[hp]at h;injection h with h
  injection h with h1 h2
  subst h1;have:=auF hp;exact⟨this.1,this.2.1⟩
theorem azC{a b:List UInt8}(h:ceW a b=false):Digs b:=by
 unfold ceW at h;simp only[cC,aM,dY]at h;exact(agH _ _ (aV _)).1 h.2
theorem btB{s:List UInt8}{k:Nat}{gr:Bool}(h:aoM l s=some (d,k,gr)):Digs d∧d.length≤2*s.length∧k≤s.length:=by
 have hl:=bkI s l.dc;unfold aoM at h;split at h
 ·cases h
 rename_i hb
 cases hw:acU l (Lib.cut s l.dc).1 with
 |none=>rw[hw]at h;cases h
 |some q=>
  obtain⟨q,g2⟩:=q;rw[hw]at h;injection h with h
  injection h with h1 h2
  injection h2 with h2 h3
  subst h1;subst h2;have:=asK hw;refine⟨Digs.app this.1 (azC (by simpa using hb)),?_,hl.2⟩;rw[aP];omega
theorem ayM{s t:List UInt8}{n:Int}{x:Bool}(h:alP l s=some (t,n,x)):t.length≤s.length∧ -1000000000<n∧n<1000000000:=by
 unfold alP at h;split at h
 ·cases he:bfZ l (s.drop ((eAt s).toNat+1))with
  |none=>rw[he]at h;cases h
  |some m=>
   rw[he]at h;injection h with h
   injection h with h1 h2
   injection h2 with h2 h3
   subst h1;subst h2;have:=bsL he;exact⟨by rw[aS];omega,this⟩
 injection h with h
 injection h with h1 h2
 injection h2 with h2 h3
 subst h1;subst h2;exact⟨aV _,by decide,by decide⟩
theorem eAtA(s:List UInt8):Fn 209 [.str (Lib.replaceAll s [69] [101]),.int .u8 101] (.int .i64 (eAt s)):=λH=>indexByteA _ 101 H
theorem anH{old new:List UInt8}(h:new.length=old.length):∀(k:Nat)(s:List UInt8),(Lib.replaceK old new k s).length=s.length
 |0,s=>rfl
 |k+1,s=>by
  rw[Lib.replaceK];split
  ·rfl
  rename_i hc
  have hg:=Lib.index_ge s old;have hne:Lib.index s old≠ -1:=λq=>hc (by simp[q]);have hr:=Lib.index_room s old aA;simp only[aP,aS,anH h k,bD];omega
theorem bdU{s old new:List UInt8}(h:new.length=old.length):(Lib.replaceAll s old new).length=s.length:=by
 unfold Lib.replaceAll Lib.replace;split
 ·rfl
 exact anH h _ _
theorem cnA(s:List UInt8):eAt s<s.length:=by
 have h:=bdU (s:=s) (old:=[69]) (new:=[101]) rfl;unfold eAt;rcases Int.lt_or_le (Lib.indexByte (Lib.replaceAll s [69] [101]) 101) 0 with h0|h0
 ·omega
 obtain⟨o,ho⟩:∃o:Nat,Lib.indexByte (Lib.replaceAll s [69] [101]) 101=o:=⟨(Lib.indexByte (Lib.replaceAll s [69] [101]) 101).toNat,by omega⟩;have h1:=(Lib.indexByte_some ho).1;have h2:=(cW.1 h1).1;omega
theorem ahK(l:Loc)(hk:l.ok)(hg:l.grp≠[])(b:Nat)(s:List UInt8)(hs:s.length≤1000)(o:EntN)(ho:o.exp=false∧o.grouped=false)(bo:Nat)(H:Heap)(hbo:H.objs bo=some (.box 76 (EntN.cs o))):ACall prog 161 [erA l b,.str s,.ptr (some ⟨bo,0,none⟩)] H (λy H'=>∃(p:PartN)(o':EntN),y= .tuple [p.av,.bool (arJ l s).isSome]∧H'=H.set bo (.box 76 (EntN.cs o'))∧(∀r,arJ l s=some r→p=⟨r.1,r.2.1⟩∧o'={o with places:=r.2.2.1,grouped:=r.2.2.2.1,exp:=r.2.2.2.2})∧ -2000000000≤p.exp∧p.exp≤2000000000):=by
 have hel:=cnA s;have hoe:({o with exp:=false}:EntN)=o:=by cases o;simp at ho;simp[ho]
 refine .of_body func161 rfl ntmps161 results161 rfl ?_;iterate 2 refine AX ?_
 refine .al zr130 (λb6 hb6=>?_);iterate 5 refine AX ?_
 refine .al zr130 (λb8 hb8=>?_);have hn6_8:=Heap.ne_of (oS _ _ _) hb8;iterate 2 refine AX ?_
 refine .meet (λenv H2=>∃(s1:List UInt8)(n:Int)(x:Bool),alP l s=some (s1,n,x)∧env=[(0,erA l b),(1,.str s1),(2,.ptr (some ⟨bo,0,none⟩)),(6,.ptr (some ⟨b6,0,none⟩)),(7,.bool false),(8,.ptr (some ⟨b8,0,none⟩))]∧H2=((H.set bo (.box 76 (EntN.cs {o with exp:=x}))).set b6 (.box 130 [.str [],.int .i64 0])).set b8 (.box 130 [.str [],.int .i64 n])) ?_ ?_
 ·refine AX ?_;have ho6:bo≠b6:=by intro q;rw[q,hb6]at hbo;cases hbo
  have hbo6:=(oN H (.box 130 [.str [],.int .i64 0]) ho6).trans hbo;have ho8:bo≠b8:=by intro q;rw[q,hb8]at hbo6;cases hbo6
  have ho6s:=ho6.symm;have ho8s:=ho8.symm;iterate 2 refine AX ?_
  refine .cl rfl call210 (.cons (tm rfl) (.cons (zO rfl) (.cons (zO rfl) .nil))) (replaceA s [69] [101] aA aC aC _) (.cl rfl call209 (.cons (tm rfl) (.cons zH .nil)) (eAtA s _) ?_);iterate 9 refine AX ?_
  refine .cx rfl (λhc21=>?_) (λhc21=>?_)
  ·have hdn:(eAt s+1).toNat=(eAt s).toNat+1:=by omega
   iterate 7 refine AX ?_
   refine .cl rfl call211 (evs2 rfl rfl) (awP l b _ (by simp only[bD];omega) _) ?_;iterate 14 refine AX ?_
   refine .cx rfl (λhc32=>?_) (λhc32=>?_)
   ·have hq2:bfZ l (s.drop ((eAt s).toNat+1))=none:=by rw[←hdn];simpa using hc32
    have hnn:arJ l s=none:=by unfold arJ alP;rw[aJ,hq2]
    iterate 7 refine AX ?_
    refine .dropb (fS hb8 _) ?_;refine .frz (t:=6) rfl hb6 ?_;iterate 4 refine AX ?_
    refine⟨⟨[],0⟩,o,?_,(Heap.set_self hbo).symm,λr hr=>?_,by decide,by decide⟩
    ·rw[hnn];rfl
    rw[hnn]at hr;cases hr
   obtain⟨n0,hq2⟩:∃n0,bfZ l (s.drop ((eAt s).toNat+1))=some n0:=by rw[←hdn];exact gI.1 (by simpa using hc32)
   have hhead:alP l s=some (s.take (eAt s).toNat,n0,true):=by unfold alP;rw[aJ,hq2]
   rw[hdn,hq2];iterate 9 refine AX ?_
   refine .p rfl (zD U130 rfl Z3 (tm rfl)) ?_;iterate 2 refine AX ?_
   refine .p rfl (zD U76 rfl Z4 (tm rfl)) (.e0 (zN Z4 (tm rfl) yK rfl rfl (.inl rfl) ((oN _ _ ho8).trans ((oN _ _ ho6).trans hbo)) (lB rfl)) ?_);try first|rw[sS]|rw[sU aB]
   iterate 2 refine AX ?_
   refine .mk ⟨_,_,true,hhead,rfl,rfl⟩ sX (by(rw[Heap.set_comm ho8s,Heap.set_comm ho6s];exact hRa _))
  have hhead:alP l s=some (s,0,false):=by unfold alP;rw[aI]
  iterate 2 refine AX ?_
  refine .mk ⟨s,0,false,hhead,rfl,rfl⟩ sX (by(rw[hoe,Heap.set_self hbo];exact hRa _))
 rintro _ _ ⟨s1,n,x,hhp,rfl,rfl⟩;have ho6:bo≠b6:=by intro q;rw[q,hb6]at hbo;cases hbo
 have hbo6:=(oN H (.box 130 [.str [],.int .i64 0]) ho6).trans hbo;have ho8:bo≠b8:=by intro q;rw[q,hb8]at hbo6;cases hbo6
 have ho6s:=ho6.symm;have ho8s:=ho8.symm;have hcl:=bkI s1 l.dc;have hh1:=ayM hhp;have hboN:=oS H bo (.box 76 (EntN.cs {o with exp:=x}));have hb80:=(oN H (.box 130 [.str [],.int .i64 0]) hn6_8.symm).symm.trans hb8;have hb6:=(oN H (.box 76 (EntN.cs {o with exp:=x})) ho6s).trans hb6;have hb8:((H.set bo (.box 76 (EntN.cs {o with exp:=x}))).set b6 (.box 130 [.str [],.int .i64 0])).objs b8=none:=(oN _ _ hn6_8.symm).trans ((oN _ _ ho8s).trans hb80);have hset:∀X,(H.set bo (.box 76 (EntN.cs {o with exp:=x}))).set bo X=H.set bo X:=λX=>sS _ _ _ _;generalize hH1:H.set bo (.box 76 (EntN.cs {o with exp:=x}))=HB at hboN hb6 hb8 hset ⊢;have hbo0:=hbo;have hbo:=hboN;have hoe2:({o with exp:=x,grouped:=false}:EntN)={o with exp:=x}:=by cases o;simp at ho;simp[ho]
 iterate 5 refine AX ?_
 refine .p rfl (zA U123 rfl Z29 (tm rfl)) (.p rfl (zA U29 rfl Z9 (tm rfl)) ?_);refine AX ?_;refine .cl rfl call212 (evs2 rfl rfl) (cutA s1 l.dc aA _) ?_;iterate 10 refine AX ?_
 refine .seqTo 63 (.bool ((decide ((Lib.cut s1 l.dc).1=[])&&decide ((Lib.cut s1 l.dc).2.1=[]))||decide (qU afM (Lib.cut s1 l.dc).2.1.length (Lib.cut s1 l.dc).2.1≠[]))) [0,2,6,7,8,12,13] ?_ ?_
 ·iterate 4 refine AX ?_
  refine zC (t:=55) rfl (λhg55=>?_) (λhg55=>?_)
  ·iterate 4 refine AX ?_
   refine zC (t:=59) rfl (λhg59=>?_) (λhg59=>?_)
   ·iterate 5 refine AX ?_
    exact⟨rfl,zL rfl (by(rw[show decide ((Lib.cut s1 l.dc).1=[])=_ from hg55,show decide ((Lib.cut s1 l.dc).2.1=[])=_ from hg59];rfl)) sX,rfl⟩
   refine AX ?_;refine .gs rfl rfl rfl aB (zB C96 (.cons (tm rfl) (.cons (.func _) .nil)) (trimDigitsA _ _)) ?_;rintro _ _ ⟨rfl,hH⟩;obtain rfl:=hH.symm;iterate 3 refine AX ?_
   exact⟨rfl,zL rfl (by(simp[*];done)) sX,rfl⟩
  iterate 5 refine AX ?_
  refine .gs rfl rfl rfl aD (zB C96 (.cons (tm rfl) (.cons (.func _) .nil)) (trimDigitsA _ _)) ?_;rintro _ _ ⟨rfl,hH⟩;obtain rfl:=hH.symm;iterate 3 refine AX ?_
  exact⟨rfl,zL rfl (by(simp[*];done)) sX,rfl⟩
 refine .sub [(63,_),(0,_),(2,_),(6,_),(7,_),(8,_),(12,_),(13,_)] sX ?_;refine .cx rfl (λhc63=>?_) (λhc63=>?_)
 ·have hbad:ceW (Lib.cut s1 l.dc).1 (Lib.cut s1 l.dc).2.1=true:=hc63;have hnn:arJ l s=none:=by
   have hb:aoM l s1=none:=by unfold aoM;rw[aN hbad]
   unfold arJ;rw[hhp];simp only[hb]
  iterate 7 refine AX ?_
  refine .dropb (fS hb8 _) ?_;refine .frz (t:=6) rfl hb6 ?_;iterate 3 refine AX ?_
  refine⟨⟨[],n⟩,{o with exp:=x},?_,hH1.symm,λr hr=>?_,by show-2000000000≤n;omega,by show n≤2000000000;omega⟩
  ·rw[hnn];rfl
  rw[hnn]at hr;cases hr
 have hbad:ceW (Lib.cut s1 l.dc).1 (Lib.cut s1 l.dc).2.1=false:=hc63;iterate 2 refine AX ?_
 refine .meet (λenv H2=>∃(d:List UInt8)(gr:Bool),acU l (Lib.cut s1 l.dc).1=some (d,gr)∧env=[(2,.ptr (some ⟨bo,0,none⟩)),(6,.ptr (some ⟨b6,0,none⟩)),(7,.bool false),(8,.ptr (some ⟨b8,0,none⟩)),(13,.str (Lib.cut s1 l.dc).2.1)]∧H2=((HB.set bo (.box 76 (EntN.cs {o with exp:=x,grouped:=gr}))).set b6 (.box 130 [.str [],.int .i64 0])).set b8 (.box 130 [.str d,.int .i64 n])) ?_ ?_
 ·iterate 6 refine AX ?_
  refine .cx rfl (λhc66=>?_) (λhc66=>?_)
  ·have hwne:(Lib.cut s1 l.dc).1≠[]:=by simpa using hc66
   iterate 4 refine AX ?_
   refine .p rfl (zA U123 rfl Z29 (tm rfl)) ?_;iterate 2 refine AX ?_
   refine .cl rfl call214 (evs2 rfl rfl) (blC l hk hg _ aA _) ?_;iterate 14 refine AX ?_
   refine .cx rfl (λhc77=>?_) (λhc77=>?_)
   ·have hq3:adW l (Lib.cut s1 l.dc).1=none:=by simpa using hc77
    have hnn:arJ l s=none:=by
     have hw:acU l (Lib.cut s1 l.dc).1=none:=by unfold acU;rw[aL hwne,hq3]
     have hb:aoM l s1=none:=by unfold aoM;rw[aL (by rw[hbad];decide),hw]
     unfold arJ;rw[hhp];simp only[hb]
    iterate 7 refine AX ?_
    refine .dropb (fS hb8 _) ?_;refine .frz (t:=6) rfl hb6 ?_;iterate 4 refine AX ?_
    refine⟨⟨[],n⟩,{o with exp:=x},?_,hH1.symm,λr hr=>?_,by show-2000000000≤n;omega,by show n≤2000000000;omega⟩
    ·rw[hnn];rfl
    rw[hnn]at hr;cases hr
   obtain⟨d0,hq3⟩:∃d0,adW l (Lib.cut s1 l.dc).1=some d0:=gI.1 (by simpa using hc77);have hwh:acU l (Lib.cut s1 l.dc).1=some (d0,!decide (d0=(Lib.cut s1 l.dc).1)):=by unfold acU;rw[aL hwne,hq3]
   rw[hq3];iterate 9 refine AX ?_
   refine .p rfl (zD U76 rfl Z4 (tm rfl)) (.e0 (zN Z4 (tm rfl) (tm rfl) rfl rfl (.inl rfl) ((oN _ _ ho8).trans ((oN _ _ ho6).trans hbo)) (lB rfl)) ?_);try first|rw[sS]|rw[sU aB]
   iterate 4 refine AX ?_
   refine .p rfl (zD U130 rfl Z9 (tm rfl)) ?_;iterate 3 refine AX ?_
   refine .mk ⟨_,_,hwh,rfl,rfl⟩ sX (by(rw[Heap.set_comm ho8s,Heap.set_comm ho6s];exact hRa _))
  have hwh:acU l (Lib.cut s1 l.dc).1=some ([],false):=by unfold acU;rw[aN (by simpa using hc66)]
  iterate 2 refine AX ?_
  refine .mk ⟨[],false,hwh,rfl,rfl⟩ sX (by(rw[hoe2,Heap.set_self hbo];exact hRa _))
 rintro _ _ ⟨d,gr,hwp,rfl,rfl⟩;have hwl:=asK hwp;have hboM:=oS HB bo (.box 76 (EntN.cs {o with exp:=x,grouped:=gr}));have hb80:=(oN HB (.box 130 [.str [],.int .i64 0]) hn6_8.symm).symm.trans hb8;have hb6:=(oN HB (.box 76 (EntN.cs {o with exp:=x,grouped:=gr})) ho6s).trans hb6;have hb8:((HB.set bo (.box 76 (EntN.cs {o with exp:=x,grouped:=gr}))).set b6 (.box 130 [.str [],.int .i64 0])).objs b8=none:=(oN _ _ hn6_8.symm).trans ((oN _ _ ho8s).trans hb80);have hset2:∀X,(HB.set bo (.box 76 (EntN.cs {o with exp:=x,grouped:=gr}))).set bo X=H.set bo X:=λX=>by rw[sS,hset]
 generalize hH2:HB.set bo (.box 76 (EntN.cs {o with exp:=x,grouped:=gr}))=HC at hboM hb6 hb8 hset2 ⊢;have hbo:=hboM;have hb81:=(oN HC (.box 130 [.str [],.int .i64 0]) hn6_8.symm).symm.trans hb8;iterate 2 refine AX ?_
 refine .p rfl (zD U130 rfl Z9 (tm rfl)) ?_;iterate 2 refine AX ?_
 refine .p rfl (zS (tm rfl) (tm rfl) (by rw[zJ];omega)) (.p rfl (zD U130 rfl Z9 (tm rfl)) ?_);iterate 5 refine AX ?_
 refine .p rfl (zD U130 rfl Z3 (tm rfl)) ?_;iterate 4 refine AX ?_
 refine .p rfl (zD U130 rfl Z3 (tm rfl)) ?_;iterate 9 refine AX ?_
 refine .p rfl (zD U76 rfl Z3 (tm rfl)) (.e0 (zN Z3 (tm rfl) (tm rfl) rfl rfl (.inl rfl) ((oN _ _ ho8).trans ((oN _ _ ho6).trans hbo)) (lB rfl)) ?_);try first|rw[sS]|rw[sU aB]
 iterate 3 refine AX ?_
 rw[Heap.set_comm ho8s,Heap.set_comm ho6s];have hb8g:∀X Z,((HC.set bo X).set b6 Z).objs b8=none:=λX Z=>(oN _ _ hn6_8.symm).trans ((oN _ _ ho8s).trans hb81);have hb6g:∀X,(HC.set bo X).objs b6=none:=λX=>(oN _ _ ho6s).trans hb6;iterate 6 refine AX ?_
 refine .dropb (hb8g _ _) ?_;refine .frz (t:=6) rfl (hb6g _) ?_;iterate 2 refine AX ?_
 have hnum:arJ l s=some (d++(Lib.cut s1 l.dc).2.1,n-((Lib.cut s1 l.dc).2.1.length:Nat),(Lib.cut s1 l.dc).2.1.length,gr,x):=by
  have hb:aoM l s1=some (d++(Lib.cut s1 l.dc).2.1,(Lib.cut s1 l.dc).2.1.length,gr):=by unfold aoM;rw[aL (by rw[hbad];decide),hwp]
  unfold arJ;rw[hhp];simp only[hb]
 refine⟨⟨d++(Lib.cut s1 l.dc).2.1,n-((Lib.cut s1 l.dc).2.1.length:Nat)⟩,{o with places:=((Lib.cut s1 l.dc).2.1.length:Int),grouped:=gr,exp:=x},?_,?_,λr hr=>?_,by show-2000000000≤n-((Lib.cut s1 l.dc).2.1.length:Int);omega,by show n-((Lib.cut s1 l.dc).2.1.length:Int)≤2000000000;omega⟩
 ·rw[hnum];rfl
 ·exact hset2 _
 rw[hnum]at hr;injection hr with hr;subst hr;exact⟨rfl,rfl⟩
end
section
open Go Go.RowKit
set_option maxRecDepth 100000
def adG(l:Loc)(s:List UInt8):Int×List UInt8×Int:=
 if Lib.hasPrefix s l.cur=true then(2,qU zQ (Lib.trimPrefix s l.cur).length (Lib.trimPrefix s l.cur),0)
 else if Lib.hasSuffix s l.cur=true then(2,abR zQ (Lib.trimSuffix s l.cur).length (Lib.trimSuffix s l.cur),0)
 else if Lib.hasSuffix s l.pct=true then(1,abR zQ (Lib.trimSuffix s l.pct).length (Lib.trimSuffix s l.pct),-2)
 else(0,s,0)
theorem cfB(l:Loc)(s:List UInt8):(adG l s).2.1.length≤s.length:=by
 unfold adG
 repeat' split
 ·exact aZ (acZ _ _ _) (aeO _ _)
 ·exact aZ (agI _ _ _) (aeN _ _)
 ·exact aZ (agI _ _ _) (aeN _ _)
 exact aV _
theorem bgP(l:Loc)(hk:l.ok)(hg:l.grp≠[])(b:Nat)(s:List UInt8)(hs:s.length≤1000)(o:EntN)(ho:o.exp=false∧o.grouped=false)(ho0:o.kind=0)(bo:Nat)(H:Heap)(hbo:H.objs bo=some (.box 76 (EntN.cs o))):ACall prog 97 [erA l b,.str s,.ptr (some ⟨bo,0,none⟩)] H (λy H'=>∃(p:PartN)(o':EntN),y= .tuple [p.av,.bool (arJ l (adG l s).2.1).isSome]∧H'=H.set bo (.box 76 (EntN.cs o'))∧∀r,arJ l (adG l s).2.1=some r→p=⟨r.1,r.2.1+(adG l s).2.2⟩∧o'={o with kind:=(adG l s).1,places:=r.2.2.1,grouped:=r.2.2.2.1,exp:=r.2.2.2.2}):=by
 have hl1:=aeO s l.cur;have hl2:=aeN s l.cur;have hl3:=aeN s l.pct;have hl4:=acZ zQ (Lib.trimPrefix s l.cur).length (Lib.trimPrefix s l.cur);have hl5:=agI zQ (Lib.trimSuffix s l.cur).length (Lib.trimSuffix s l.cur);have hl6:=agI zQ (Lib.trimSuffix s l.pct).length (Lib.trimSuffix s l.pct);refine .of_body func97 rfl ntmps97 results97 rfl ?_;iterate 2 refine AX ?_
 refine .al zr130 (λb6 hb6=>?_);iterate 5 refine AX ?_
 have ho6:bo≠b6:=by intro q;rw[q,hb6]at hbo;cases hbo
 have ho6s:=ho6.symm;iterate 4 refine AX ?_
 refine .p rfl (zA U123 rfl Z29 (tm rfl)) (.p rfl (zA U29 rfl Z9 (tm rfl)) ?_);refine AX ?_;refine .cl rfl C93 (evs2 rfl rfl) (cutPrefixA _ _ _) ?_;iterate 12 refine AX ?_
 refine .cx rfl (λhc26=>?_) (λhc26=>?_)
 ·have hamt:adG l s=(2,(qU zQ (Lib.trimPrefix s l.cur).length (Lib.trimPrefix s l.cur)),0):=by unfold adG;rw[aN hc26]
  iterate 4 refine AX ?_
  refine .p rfl (zD U76 rfl Z3 (tm rfl)) (.e0 (zN Z3 (tm rfl) zH rfl rfl (.inl rfl) ((oN _ _ ho6).trans hbo) (lB rfl)) ?_);try first|rw[sS]|rw[sU aB]
  iterate 6 refine AX ?_
  refine .cl rfl C96 (.cons (tm rfl) (.cons (.func _) .nil)) (trimLeftFuncA _ _) ?_;refine AX ?_;refine .s rfl (zB C161 (evs3 rfl rfl rfl) (ahK l hk hg b (qU zQ (Lib.trimPrefix s l.cur).length (Lib.trimPrefix s l.cur)) aA {o with kind:=2} ho bo _ (oS _ _ _))) ?_;rintro _ _ ⟨p,o1,rfl,rfl,hp,hpe1,hpe2⟩;try rw[sS]
  iterate 6 refine AX ?_
  rw[Heap.set_comm ho6s];refine .frz (t:=6) rfl ((oN _ _ ho6s).trans hb6) ?_;iterate 3 refine AX ?_
  refine⟨p,o1,?_,rfl,λr hr=>?_⟩
  ·rw[hamt];rfl
  rw[hamt]at hr ⊢;obtain⟨rfl,rfl⟩:=hp r hr;exact⟨by simp,rfl⟩
 iterate 8 refine AX ?_
 refine .p rfl (zA U123 rfl Z29 (tm rfl)) (.p rfl (zA U29 rfl Z9 (tm rfl)) ?_);refine AX ?_;refine .cl rfl call94 (evs2 rfl rfl) (cutSuffixA _ _ _) ?_;iterate 12 refine AX ?_
 refine .cx rfl (λhc47=>?_) (λhc47=>?_)
 ·have hamt:adG l s=(2,(abR zQ (Lib.trimSuffix s l.cur).length (Lib.trimSuffix s l.cur)),0):=by unfold adG;rw[aL (by simp[hc26]),aN hc47]
  iterate 4 refine AX ?_
  refine .p rfl (zD U76 rfl Z3 (tm rfl)) (.e0 (zN Z3 (tm rfl) zH rfl rfl (.inl rfl) ((oN _ _ ho6).trans hbo) (lB rfl)) ?_);try first|rw[sS]|rw[sU aB]
  iterate 6 refine AX ?_
  refine .cl rfl call157 (.cons (tm rfl) (.cons (.func _) .nil)) (trimRightFuncA _ _) ?_;refine AX ?_;refine .s rfl (zB C161 (evs3 rfl rfl rfl) (ahK l hk hg b (abR zQ (Lib.trimSuffix s l.cur).length (Lib.trimSuffix s l.cur)) aA {o with kind:=2} ho bo _ (oS _ _ _))) ?_;rintro _ _ ⟨p,o1,rfl,rfl,hp,hpe1,hpe2⟩;try rw[sS]
  iterate 6 refine AX ?_
  rw[Heap.set_comm ho6s];refine .frz (t:=6) rfl ((oN _ _ ho6s).trans hb6) ?_;iterate 3 refine AX ?_
  refine⟨p,o1,?_,rfl,λr hr=>?_⟩
  ·rw[hamt];rfl
  rw[hamt]at hr ⊢;obtain⟨rfl,rfl⟩:=hp r hr;exact⟨by simp,rfl⟩
 iterate 8 refine AX ?_
 refine .p rfl (zA U123 rfl Z29 (tm rfl)) (.p rfl (zA U29 rfl Z9 (tm rfl)) ?_);refine AX ?_;refine .cl rfl call94 (evs2 rfl rfl) (cutSuffixA _ _ _) ?_;iterate 12 refine AX ?_
 refine .cx rfl (λhc68=>?_) (λhc68=>?_)
 ·have hamt:adG l s=(1,(abR zQ (Lib.trimSuffix s l.pct).length (Lib.trimSuffix s l.pct)),-2):=by unfold adG;rw[aL (by simp[hc26]),aL (by simp[hc47]),aN hc68]
  iterate 4 refine AX ?_
  refine .p rfl (zD U76 rfl Z3 (tm rfl)) (.e0 (zN Z3 (tm rfl) zH rfl rfl (.inl rfl) ((oN _ _ ho6).trans hbo) (lB rfl)) ?_);try first|rw[sS]|rw[sU aB]
  iterate 6 refine AX ?_
  refine .cl rfl call157 (.cons (tm rfl) (.cons (.func _) .nil)) (trimRightFuncA _ _) ?_;refine AX ?_;refine .s rfl (zB C161 (evs3 rfl rfl rfl) (ahK l hk hg b (abR zQ (Lib.trimSuffix s l.pct).length (Lib.trimSuffix s l.pct)) aA {o with kind:=1} ho bo _ (oS _ _ _))) ?_;rintro _ _ ⟨p,o1,rfl,rfl,hp,hpe1,hpe2⟩;try rw[sS]
  iterate 3 refine AX ?_
  refine .al zr130 (λb14 hb14=>?_);have hn6_14:=Heap.ne_of (oS _ _ _) hb14;iterate 5 refine AX ?_
  have h6e:b6≠b14:=Heap.ne_of ((oN _ _ ho6s).trans (oS _ _ _)) hb14;have hoe14:bo≠b14:=Heap.ne_of (oS _ _ _) hb14;have h140:H.objs b14=none:=by have q:=hb14;rw[oN _ _ hoe14.symm,oN _ _ h6e.symm]at q;exact q
  refine AX ?_;refine .p rfl (zD U130 rfl Z3 (tm rfl)) ?_;iterate 2 refine AX ?_
  refine .p rfl (zD U130 rfl Z3 (tm rfl)) ?_;iterate 7 refine AX ?_
  refine .e0 (zN sizeOf130 (tm rfl) (tm rfl) rfl rfl (.inr ⟨_,rfl⟩) ((oN _ _ aB).trans ((oN _ _ aB).trans (oS _ _ _))) (lB rfl)) ?_;try first|rw[sS]|rw[sU aB]
  iterate 3 refine AX ?_
  rw[Heap.set_comm h6e.symm,sU ho6s];refine .dropb ((oN _ _ hoe14.symm).trans ((oN _ _ h6e.symm).trans h140)) ?_;rw[Heap.set_comm ho6s];refine .frz (t:=6) rfl ((oN _ _ ho6s).trans hb6) ?_;iterate 3 refine AX ?_
  refine⟨⟨p.digits,p.exp-2⟩,o1,?_,rfl,λr hr=>?_⟩
  ·rw[hamt];rfl
  rw[hamt]at hr ⊢;obtain⟨rfl,rfl⟩:=hp r hr;exact⟨rfl,rfl⟩
 have hamt:adG l s=(0,s,0):=by unfold adG;rw[aL (by simp[hc26]),aL (by simp[hc47]),aL (by simp[hc68])]
 iterate 7 refine AX ?_
 refine .s rfl (zB C161 (evs3 rfl rfl rfl) (ahK l hk hg b s aA {o with kind:=o.kind} ho bo _ ((oN _ _ ho6).trans hbo))) ?_;rintro _ _ ⟨p,o1,rfl,rfl,hp,hpe1,hpe2⟩;try rw[sS]
 iterate 6 refine AX ?_
 rw[Heap.set_comm ho6s];refine .frz (t:=6) rfl ((oN _ _ ho6s).trans hb6) ?_;iterate 2 refine AX ?_
 refine⟨p,o1,?_,rfl,λr hr=>?_⟩
 ·rw[hamt];rfl
 rw[hamt]at hr ⊢;obtain⟨rfl,rfl⟩:=hp r hr;exact⟨by simp,by rw[ho0]⟩
end
end Go.Proofs.YtmmgbnolccpjoaaGreatDoor
