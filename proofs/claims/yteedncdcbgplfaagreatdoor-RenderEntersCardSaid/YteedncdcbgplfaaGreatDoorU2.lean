import Derived.Test.YteedncdcbgplfaaGreatDoorU1
set_option maxHeartbeats 1000000
namespace Go.Proofs.YteedncdcbgplfaaGreatDoor
open Go.Proofs.Tryz
open Go Go.RowKit
variable{l:Loc}{d:List UInt8}{gr:Bool}
section
set_option maxRecDepth 100000
theorem zr69:ZR 69 [.int .u64 0,.int .i64 0,.int .i64 0,.bool false,.bool false]:=ZRi zeroValue69
theorem pl69:PL 69 [(0,1),(1,1),(2,1),(3,1),(4,1)]:=PLi U69
theorem zr127:ZR 127 [.str [],.int .i64 0]:=ZRi zeroValue127
structure EntN where
 bits:Nat
 kind:Int
 places:Int
 grouped:Bool
 exp:Bool
def EntN.cs(o:EntN):List AV:=[.int .u64 (o.bits:Int),.int .i64 o.kind,.int .i64 o.places,.bool o.grouped,.bool o.exp]
structure PartN where
 digits:List UInt8
 exp:Int
def PartN.av(p:PartN):AV:=.agg [.str p.digits,.int .i64 p.exp]
def eAt(s:List UInt8):Int:=Lib.indexByte (Lib.replaceAll s [69] [101]) 101
def aoA(l:Loc)(s:List UInt8):Option (List UInt8×Int×Bool):=
 if 0≤eAt s then(match bpZ l (s.drop ((eAt s).toNat+1))with|some n=>some (s.take (eAt s).toNat,n,true)|none=>none)else some (s,0,false)
def agD(l:Loc)(w:List UInt8):Option (List UInt8×Bool):=
 if w=[]then some ([],false)else match ahH l w with|none=>none|some d=>some (d,!decide (d=w))
def ciY(a b:List UInt8):Bool:=(decide (a=[])&&decide (b=[]))||decide (aaV aeQ b.length b≠[])
def apL(l:Loc)(s:List UInt8):Option (List UInt8×Nat×Bool):=
 if ciY (Lib.cut s l.dc).1 (Lib.cut s l.dc).2.1=true then none
 else match agD l (Lib.cut s l.dc).1 with|none=>none|some (d,g)=>some (d++(Lib.cut s l.dc).2.1,(Lib.cut s l.dc).2.1.length,g)
def agS(l:Loc)(s:List UInt8):Option (List UInt8×Int×Nat×Bool×Bool):=
 match aoA l s with
 |none=>none
 |some (t,n,x)=>match apL l t with|none=>none|some (d,k,g)=>some (d,n-k,k,g,x)
theorem boQ{s:List UInt8}{n:Int}(h:bpZ l s=some n): -1000000000<n∧n<1000000000:=by
 unfold bpZ at h;split at h
 ·rename_i hc
  have h9:=ckP (aeZ.1 hc.2.1) hc.2.2;injection h with h
  subst h;split<;>omega
 cases h
theorem bfQ{s:List UInt8}(h:ahH l s=some d):Digs d∧d.length≤s.length∧d≠[]:=by
 unfold ahH at h;split at h
 ·cases h
 rename_i hc
 split at h
 ·cases h
 injection h with h
 subst h;refine⟨?_,biP _ _,λq=>hc (.inl q)⟩;rcases Bool.eq_false_or_eq_true (awN (Lib.replaceAll s l.grp []))with q|q
 ·exact aeZ.1 q
 exact absurd (.inr q) hc
theorem aqA{w:List UInt8}(h:agD l w=some (d,gr)):Digs d∧d.length≤w.length:=by
 unfold agD at h;split at h
 ·injection h with h
  injection h with h1 h2
  subst h1;exact⟨λb hb=>by simp at hb,Nat.zero_le _⟩
 cases hp:ahH l w with
 |none=>rw[hp]at h;cases h
 |some q=>
  rw[hp]at h;injection h with h
  injection h with h1 h2
  subst h1;have:=bfQ hp;exact⟨this.1,this.2.1⟩
theorem bpO{a b:List UInt8}(h:ciY a b=false):Digs b:=by
 unfold ciY at h;simp only[dQ,aR,gQ]at h;exact(afJ _ _ (aZ _)).1 h.2
theorem bpJ{s:List UInt8}{k:Nat}(h:apL l s=some (d,k,gr)):Digs d∧d.length≤2*s.length∧k≤s.length:=by
 have hl:=bgX s l.dc;unfold apL at h;split at h
 ·cases h
 rename_i hb
 cases hw:agD l (Lib.cut s l.dc).1 with
 |none=>rw[hw]at h;cases h
 |some q=>
  obtain⟨q,g2⟩:=q;rw[hw]at h;injection h with h
  injection h with h1 h2
  injection h2 with h2 h3
  subst h1;subst h2;have:=aqA hw;refine⟨Digs.app this.1 (bpO (by simpa using hb)),?_,hl.2⟩;rw[aO];omega
theorem awG{s t:List UInt8}{n:Int}{x:Bool}(h:aoA l s=some (t,n,x)):t.length≤s.length∧ -1000000000<n∧n<1000000000:=by
 unfold aoA at h;split at h
 ·cases he:bpZ l (s.drop ((eAt s).toNat+1))with
  |none=>rw[he]at h;cases h
  |some m=>
   rw[he]at h;injection h with h
   injection h with h1 h2
   injection h2 with h2 h3
   subst h1;subst h2;have:=boQ he;exact⟨by rw[aV];omega,this⟩
 injection h with h
 injection h with h1 h2
 injection h2 with h2 h3
 subst h1;subst h2;exact⟨aZ _,by decide,by decide⟩
theorem eAtA(s:List UInt8):Fn 135 [.str (Lib.replaceAll s [69] [101]),.int .u8 101] (.int .i64 (eAt s)):=λH=>indexByteA _ 101 H
theorem amB{old new:List UInt8}(h:new.length=old.length):∀(k:Nat)(s:List UInt8),(Lib.replaceK old new k s).length=s.length
 |0,s=>rfl
 |k+1,s=>by
  rw[Lib.replaceK];split
  ·rfl
  rename_i hc
  have hg:=Lib.index_ge s old;have hne:Lib.index s old≠ -1:=λq=>hc (by simp[q]);have hr:=Lib.index_room s old aA;simp only[aO,aV,amB h k,bO];omega
theorem bbA{s old new:List UInt8}(h:new.length=old.length):(Lib.replaceAll s old new).length=s.length:=by
 unfold Lib.replaceAll Lib.replace;split
 ·rfl
 exact amB h _ _
theorem clG(s:List UInt8):eAt s<s.length:=by
 have h:=bbA (s:=s) (old:=[69]) (new:=[101]) rfl;unfold eAt;rcases Int.lt_or_le (Lib.indexByte (Lib.replaceAll s [69] [101]) 101) 0 with h0|h0
 ·omega
 obtain⟨o,ho⟩:∃o:Nat,Lib.indexByte (Lib.replaceAll s [69] [101]) 101=o:=⟨(Lib.indexByte (Lib.replaceAll s [69] [101]) 101).toNat,by omega⟩;have h1:=(Lib.indexByte_some ho).1;have h2:=(bT.1 h1).1;omega
theorem aeW(l:Loc)(hk:l.ok)(hg:l.grp≠[])(b:Nat)(s:List UInt8)(hs:s.length≤1000)(o:EntN)(ho:o.exp=false∧o.grouped=false)(bo:Nat)(H:Heap)(hbo:H.objs bo=some (.box 69 (EntN.cs o))):ACall prog 149 [erA l b,.str s,.ptr (some ⟨bo,0,none⟩)] H (λy H'=>∃(p:PartN)(o':EntN),y= .tuple [p.av,.bool (agS l s).isSome]∧H'=H.set bo (.box 69 (EntN.cs o'))∧(∀r,agS l s=some r→p=⟨r.1,r.2.1⟩∧o'={o with places:=r.2.2.1,grouped:=r.2.2.2.1,exp:=r.2.2.2.2})∧ -2000000000≤p.exp∧p.exp≤2000000000):=by
 have hel:=clG s;have hoe:({o with exp:=false}:EntN)=o:=by cases o;simp at ho;simp[ho]
 refine .of_body func149 rfl ntmps149 results149 rfl ?_;iterate 2 refine AX ?_
 refine .al zr127 (λb6 hb6=>?_);iterate 5 refine AX ?_
 refine .al zr127 (λb8 hb8=>?_);have hn6_8:=Heap.ne_of (oS _ _ _) hb8;iterate 2 refine AX ?_
 refine .meet (λenv H2=>∃(s1:List UInt8)(n:Int)(x:Bool),aoA l s=some (s1,n,x)∧env=[(0,erA l b),(1,.str s1),(2,.ptr (some ⟨bo,0,none⟩)),(6,.ptr (some ⟨b6,0,none⟩)),(7,.bool false),(8,.ptr (some ⟨b8,0,none⟩))]∧H2=((H.set bo (.box 69 (EntN.cs {o with exp:=x}))).set b6 (.box 127 [.str [],.int .i64 0])).set b8 (.box 127 [.str [],.int .i64 n])) ?_ ?_
 ·refine AX ?_;have ho6:bo≠b6:=by intro q;rw[q,hb6]at hbo;cases hbo
  have hbo6:=(oN H (.box 127 [.str [],.int .i64 0]) ho6).trans hbo;have ho8:bo≠b8:=by intro q;rw[q,hb8]at hbo6;cases hbo6
  have ho6s:=ho6.symm;have ho8s:=ho8.symm;iterate 2 refine AX ?_
  refine .cl rfl call222 (.cons (tm rfl) (.cons (zO rfl) (.cons (zO rfl) .nil))) (replaceA s [69] [101] aA aC aC _) (.cl rfl C135 (.cons (tm rfl) (.cons zJ .nil)) (eAtA s _) ?_);iterate 9 refine AX ?_
  refine .cx rfl (λhc21=>?_) (λhc21=>?_)
  ·have hdn:(eAt s+1).toNat=(eAt s).toNat+1:=by omega
   iterate 7 refine AX ?_
   refine .cl rfl call223 (evs2 rfl rfl) (auD l b _ (by simp only[bO];omega) _) ?_;iterate 14 refine AX ?_
   refine .cx rfl (λhc32=>?_) (λhc32=>?_)
   ·have hq2:bpZ l (s.drop ((eAt s).toNat+1))=none:=by rw[←hdn];simpa using hc32
    have hnn:agS l s=none:=by unfold agS aoA;rw[aK,hq2]
    iterate 7 refine AX ?_
    refine .dropb (fS hb8 _) ?_;refine .frz (t:=6) rfl hb6 ?_;iterate 4 refine AX ?_
    refine⟨⟨[],0⟩,o,?_,(Heap.set_self hbo).symm,λr hr=>?_,by decide,by decide⟩
    ·rw[hnn];rfl
    rw[hnn]at hr;cases hr
   obtain⟨n0,hq2⟩:∃n0,bpZ l (s.drop ((eAt s).toNat+1))=some n0:=by rw[←hdn];exact Option.isSome_iff_exists.1 (by simpa using hc32)
   have hhead:aoA l s=some (s.take (eAt s).toNat,n0,true):=by unfold aoA;rw[aK,hq2]
   rw[hdn,hq2];iterate 9 refine AX ?_
   refine .p rfl (zC U127 rfl Z3 (tm rfl)) ?_;iterate 2 refine AX ?_
   refine .p rfl (zC U69 rfl Z4 (tm rfl)) (.e0 (zL Z4 (tm rfl) zT rfl rfl (.inl rfl) ((oN _ _ ho8).trans ((oN _ _ ho6).trans hbo)) (lB rfl)) ?_);try first|rw[sS]|rw[sU aB]
   iterate 2 refine AX ?_
   refine .mk ⟨_,_,true,hhead,rfl,rfl⟩ sX (by(rw[Heap.set_comm ho8s,Heap.set_comm ho6s];exact hRa _))
  have hhead:aoA l s=some (s,0,false):=by unfold aoA;rw[aJ]
  iterate 2 refine AX ?_
  refine .mk ⟨s,0,false,hhead,rfl,rfl⟩ sX (by(rw[hoe,Heap.set_self hbo];exact hRa _))
 rintro _ _ ⟨s1,n,x,hhp,rfl,rfl⟩;have ho6:bo≠b6:=by intro q;rw[q,hb6]at hbo;cases hbo
 have hbo6:=(oN H (.box 127 [.str [],.int .i64 0]) ho6).trans hbo;have ho8:bo≠b8:=by intro q;rw[q,hb8]at hbo6;cases hbo6
 have ho6s:=ho6.symm;have ho8s:=ho8.symm;have hcl:=bgX s1 l.dc;have hh1:=awG hhp;have hboN:=oS H bo (.box 69 (EntN.cs {o with exp:=x}));have hb80:=(oN H (.box 127 [.str [],.int .i64 0]) hn6_8.symm).symm.trans hb8;have hb6:=(oN H (.box 69 (EntN.cs {o with exp:=x})) ho6s).trans hb6;have hb8:((H.set bo (.box 69 (EntN.cs {o with exp:=x}))).set b6 (.box 127 [.str [],.int .i64 0])).objs b8=none:=(oN _ _ hn6_8.symm).trans ((oN _ _ ho8s).trans hb80);have hset:∀X,(H.set bo (.box 69 (EntN.cs {o with exp:=x}))).set bo X=H.set bo X:=λX=>sS _ _ _ _;generalize hH1:H.set bo (.box 69 (EntN.cs {o with exp:=x}))=HB at hboN hb6 hb8 hset ⊢;have hbo0:=hbo;have hbo:=hboN;have hoe2:({o with exp:=x,grouped:=false}:EntN)={o with exp:=x}:=by cases o;simp at ho;simp[ho]
 iterate 5 refine AX ?_
 refine .p rfl (zA U120 rfl Z32 (tm rfl)) (.p rfl (zA U32 rfl Z9 (tm rfl)) ?_);refine AX ?_;refine .cl rfl call224 (evs2 rfl rfl) (cutA s1 l.dc aA _) ?_;iterate 10 refine AX ?_
 refine .seqTo 63 (.bool ((decide ((Lib.cut s1 l.dc).1=[])&&decide ((Lib.cut s1 l.dc).2.1=[]))||decide (aaV aeQ (Lib.cut s1 l.dc).2.1.length (Lib.cut s1 l.dc).2.1≠[]))) [0,2,6,7,8,12,13] ?_ ?_
 ·iterate 4 refine AX ?_
  refine zD (t:=55) rfl (λhg55=>?_) (λhg55=>?_)
  ·iterate 4 refine AX ?_
   refine zD (t:=59) rfl (λhg59=>?_) (λhg59=>?_)
   ·iterate 5 refine AX ?_
    exact⟨rfl,zS rfl (by(rw[show decide ((Lib.cut s1 l.dc).1=[])=_ from hg55,show decide ((Lib.cut s1 l.dc).2.1=[])=_ from hg59];rfl)) sX,rfl⟩
   refine AX ?_;refine .gs rfl rfl rfl aB (zB C69 (.cons (tm rfl) (.cons (.func _) .nil)) (trimDigitsA _ _)) ?_;rintro _ _ ⟨rfl,hH⟩;obtain rfl:=hH.symm;iterate 3 refine AX ?_
   exact⟨rfl,zS rfl (by(simp[*];done)) sX,rfl⟩
  iterate 5 refine AX ?_
  refine .gs rfl rfl rfl aD (zB C69 (.cons (tm rfl) (.cons (.func _) .nil)) (trimDigitsA _ _)) ?_;rintro _ _ ⟨rfl,hH⟩;obtain rfl:=hH.symm;iterate 3 refine AX ?_
  exact⟨rfl,zS rfl (by(simp[*];done)) sX,rfl⟩
 refine .sub [(63,_),(0,_),(2,_),(6,_),(7,_),(8,_),(12,_),(13,_)] sX ?_;refine .cx rfl (λhc63=>?_) (λhc63=>?_)
 ·have hbad:ciY (Lib.cut s1 l.dc).1 (Lib.cut s1 l.dc).2.1=true:=hc63;have hnn:agS l s=none:=by
   have hb:apL l s1=none:=by unfold apL;rw[aN hbad]
   unfold agS;rw[hhp];simp only[hb]
  iterate 7 refine AX ?_
  refine .dropb (fS hb8 _) ?_;refine .frz (t:=6) rfl hb6 ?_;iterate 3 refine AX ?_
  refine⟨⟨[],n⟩,{o with exp:=x},?_,hH1.symm,λr hr=>?_,by show-2000000000≤n;omega,by show n≤2000000000;omega⟩
  ·rw[hnn];rfl
  rw[hnn]at hr;cases hr
 have hbad:ciY (Lib.cut s1 l.dc).1 (Lib.cut s1 l.dc).2.1=false:=hc63;iterate 2 refine AX ?_
 refine .meet (λenv H2=>∃(d:List UInt8)(gr:Bool),agD l (Lib.cut s1 l.dc).1=some (d,gr)∧env=[(2,.ptr (some ⟨bo,0,none⟩)),(6,.ptr (some ⟨b6,0,none⟩)),(7,.bool false),(8,.ptr (some ⟨b8,0,none⟩)),(13,.str (Lib.cut s1 l.dc).2.1)]∧H2=((HB.set bo (.box 69 (EntN.cs {o with exp:=x,grouped:=gr}))).set b6 (.box 127 [.str [],.int .i64 0])).set b8 (.box 127 [.str d,.int .i64 n])) ?_ ?_
 ·iterate 6 refine AX ?_
  refine .cx rfl (λhc66=>?_) (λhc66=>?_)
  ·have hwne:(Lib.cut s1 l.dc).1≠[]:=by simpa using hc66
   iterate 4 refine AX ?_
   refine .p rfl (zA U120 rfl Z32 (tm rfl)) ?_;iterate 2 refine AX ?_
   refine .cl rfl call226 (evs2 rfl rfl) (bhM l hk hg _ aA _) ?_;iterate 14 refine AX ?_
   refine .cx rfl (λhc77=>?_) (λhc77=>?_)
   ·have hq3:ahH l (Lib.cut s1 l.dc).1=none:=by simpa using hc77
    have hnn:agS l s=none:=by
     have hw:agD l (Lib.cut s1 l.dc).1=none:=by unfold agD;rw[aM hwne,hq3]
     have hb:apL l s1=none:=by unfold apL;rw[aM (by rw[hbad];decide),hw]
     unfold agS;rw[hhp];simp only[hb]
    iterate 7 refine AX ?_
    refine .dropb (fS hb8 _) ?_;refine .frz (t:=6) rfl hb6 ?_;iterate 4 refine AX ?_
    refine⟨⟨[],n⟩,{o with exp:=x},?_,hH1.symm,λr hr=>?_,by show-2000000000≤n;omega,by show n≤2000000000;omega⟩
    ·rw[hnn];rfl
    rw[hnn]at hr;cases hr
   obtain⟨d0,hq3⟩:∃d0,ahH l (Lib.cut s1 l.dc).1=some d0:=Option.isSome_iff_exists.1 (by simpa using hc77);have hwh:agD l (Lib.cut s1 l.dc).1=some (d0,!decide (d0=(Lib.cut s1 l.dc).1)):=by unfold agD;rw[aM hwne,hq3]
   rw[hq3];iterate 9 refine AX ?_
   refine .p rfl (zC U69 rfl Z4 (tm rfl)) (.e0 (zL Z4 (tm rfl) (tm rfl) rfl rfl (.inl rfl) ((oN _ _ ho8).trans ((oN _ _ ho6).trans hbo)) (lB rfl)) ?_);try first|rw[sS]|rw[sU aB]
   iterate 4 refine AX ?_
   refine .p rfl (zC U127 rfl Z9 (tm rfl)) ?_;iterate 3 refine AX ?_
   refine .mk ⟨_,_,hwh,rfl,rfl⟩ sX (by(rw[Heap.set_comm ho8s,Heap.set_comm ho6s];exact hRa _))
  have hwh:agD l (Lib.cut s1 l.dc).1=some ([],false):=by unfold agD;rw[aN (by simpa using hc66)]
  iterate 2 refine AX ?_
  refine .mk ⟨[],false,hwh,rfl,rfl⟩ sX (by(rw[hoe2,Heap.set_self hbo];exact hRa _))
 rintro _ _ ⟨d,gr,hwp,rfl,rfl⟩;have hwl:=aqA hwp;have hboM:=oS HB bo (.box 69 (EntN.cs {o with exp:=x,grouped:=gr}));have hb80:=(oN HB (.box 127 [.str [],.int .i64 0]) hn6_8.symm).symm.trans hb8;have hb6:=(oN HB (.box 69 (EntN.cs {o with exp:=x,grouped:=gr})) ho6s).trans hb6;have hb8:((HB.set bo (.box 69 (EntN.cs {o with exp:=x,grouped:=gr}))).set b6 (.box 127 [.str [],.int .i64 0])).objs b8=none:=(oN _ _ hn6_8.symm).trans ((oN _ _ ho8s).trans hb80);have hset2:∀X,(HB.set bo (.box 69 (EntN.cs {o with exp:=x,grouped:=gr}))).set bo X=H.set bo X:=λX=>by rw[sS,hset]
 generalize hH2:HB.set bo (.box 69 (EntN.cs {o with exp:=x,grouped:=gr}))=HC at hboM hb6 hb8 hset2 ⊢;have hbo:=hboM;have hb81:=(oN HC (.box 127 [.str [],.int .i64 0]) hn6_8.symm).symm.trans hb8;iterate 2 refine AX ?_
 refine .p rfl (zC U127 rfl Z9 (tm rfl)) ?_;iterate 2 refine AX ?_
 refine .p rfl (zY (tm rfl) (tm rfl) (by rw[zQ];omega)) (.p rfl (zC U127 rfl Z9 (tm rfl)) ?_);iterate 5 refine AX ?_
 refine .p rfl (zC U127 rfl Z3 (tm rfl)) ?_;iterate 4 refine AX ?_
 refine .p rfl (zC U127 rfl Z3 (tm rfl)) ?_;iterate 9 refine AX ?_
 refine .p rfl (zC U69 rfl Z3 (tm rfl)) (.e0 (zL Z3 (tm rfl) (tm rfl) rfl rfl (.inl rfl) ((oN _ _ ho8).trans ((oN _ _ ho6).trans hbo)) (lB rfl)) ?_);try first|rw[sS]|rw[sU aB]
 iterate 3 refine AX ?_
 rw[Heap.set_comm ho8s,Heap.set_comm ho6s];have hb8g:∀X Z,((HC.set bo X).set b6 Z).objs b8=none:=λX Z=>(oN _ _ hn6_8.symm).trans ((oN _ _ ho8s).trans hb81);have hb6g:∀X,(HC.set bo X).objs b6=none:=λX=>(oN _ _ ho6s).trans hb6;iterate 6 refine AX ?_
 refine .dropb (hb8g _ _) ?_;refine .frz (t:=6) rfl (hb6g _) ?_;iterate 2 refine AX ?_
 have hnum:agS l s=some (d++(Lib.cut s1 l.dc).2.1,n-((Lib.cut s1 l.dc).2.1.length:Nat),(Lib.cut s1 l.dc).2.1.length,gr,x):=by
  have hb:apL l s1=some (d++(Lib.cut s1 l.dc).2.1,(Lib.cut s1 l.dc).2.1.length,gr):=by unfold apL;rw[aM (by rw[hbad];decide),hwp]
  unfold agS;rw[hhp];simp only[hb]
 refine⟨⟨d++(Lib.cut s1 l.dc).2.1,n-((Lib.cut s1 l.dc).2.1.length:Nat)⟩,{o with places:=((Lib.cut s1 l.dc).2.1.length:Int),grouped:=gr,exp:=x},?_,?_,λr hr=>?_,by show-2000000000≤n-((Lib.cut s1 l.dc).2.1.length:Int);omega,by show n-((Lib.cut s1 l.dc).2.1.length:Int)≤2000000000;omega⟩
 ·rw[hnum];rfl
 ·exact hset2 _
 rw[hnum]at hr;injection hr with hr;subst hr;exact⟨rfl,rfl⟩
end
section
open Go Go.RowKit
set_option maxRecDepth 100000
def aeR(l:Loc)(s:List UInt8):Int×List UInt8×Int:=
 if Lib.hasPrefix s l.cur=true then(2,aaV yP (Lib.trimPrefix s l.cur).length (Lib.trimPrefix s l.cur),0)
 else if Lib.hasSuffix s l.cur=true then(2,abQ yP (Lib.trimSuffix s l.cur).length (Lib.trimSuffix s l.cur),0)
 else if Lib.hasSuffix s l.pct=true then(1,abQ yP (Lib.trimSuffix s l.pct).length (Lib.trimSuffix s l.pct),-2)
 else(0,s,0)
theorem ccY(l:Loc)(s:List UInt8):(aeR l s).2.1.length≤s.length:=by
 unfold aeR
 repeat' split
 ·exact bC (aeC _ _ _) (afM _ _)
 ·exact bC (afL _ _ _) (adI _ _)
 ·exact bC (afL _ _ _) (adI _ _)
 exact aZ _
theorem bdD(l:Loc)(hk:l.ok)(hg:l.grp≠[])(b:Nat)(s:List UInt8)(hs:s.length≤1000)(o:EntN)(ho:o.exp=false∧o.grouped=false)(ho0:o.kind=0)(bo:Nat)(H:Heap)(hbo:H.objs bo=some (.box 69 (EntN.cs o))):ACall prog 70 [erA l b,.str s,.ptr (some ⟨bo,0,none⟩)] H (λy H'=>∃(p:PartN)(o':EntN),y= .tuple [p.av,.bool (agS l (aeR l s).2.1).isSome]∧H'=H.set bo (.box 69 (EntN.cs o'))∧∀r,agS l (aeR l s).2.1=some r→p=⟨r.1,r.2.1+(aeR l s).2.2⟩∧o'={o with kind:=(aeR l s).1,places:=r.2.2.1,grouped:=r.2.2.2.1,exp:=r.2.2.2.2}):=by
 have hl1:=afM s l.cur;have hl2:=adI s l.cur;have hl3:=adI s l.pct;have hl4:=aeC yP (Lib.trimPrefix s l.cur).length (Lib.trimPrefix s l.cur);have hl5:=afL yP (Lib.trimSuffix s l.cur).length (Lib.trimSuffix s l.cur);have hl6:=afL yP (Lib.trimSuffix s l.pct).length (Lib.trimSuffix s l.pct);refine .of_body func70 rfl ntmps70 results70 rfl ?_;iterate 2 refine AX ?_
 refine .al zr127 (λb6 hb6=>?_);iterate 5 refine AX ?_
 have ho6:bo≠b6:=by intro q;rw[q,hb6]at hbo;cases hbo
 have ho6s:=ho6.symm;iterate 4 refine AX ?_
 refine .p rfl (zA U120 rfl Z32 (tm rfl)) (.p rfl (zA U32 rfl Z9 (tm rfl)) ?_);refine AX ?_;refine .cl rfl C66 (evs2 rfl rfl) (cutPrefixA _ _ _) ?_;iterate 12 refine AX ?_
 refine .cx rfl (λhc26=>?_) (λhc26=>?_)
 ·have hamt:aeR l s=(2,(aaV yP (Lib.trimPrefix s l.cur).length (Lib.trimPrefix s l.cur)),0):=by unfold aeR;rw[aN hc26]
  iterate 4 refine AX ?_
  refine .p rfl (zC U69 rfl Z3 (tm rfl)) (.e0 (zL Z3 (tm rfl) zJ rfl rfl (.inl rfl) ((oN _ _ ho6).trans hbo) (lB rfl)) ?_);try first|rw[sS]|rw[sU aB]
  iterate 6 refine AX ?_
  refine .cl rfl C69 (.cons (tm rfl) (.cons (.func _) .nil)) (trimLeftFuncA _ _) ?_;refine AX ?_;refine .s rfl (zB C149 (evs3 rfl rfl rfl) (aeW l hk hg b (aaV yP (Lib.trimPrefix s l.cur).length (Lib.trimPrefix s l.cur)) aA {o with kind:=2} ho bo _ (oS _ _ _))) ?_;rintro _ _ ⟨p,o1,rfl,rfl,hp,hpe1,hpe2⟩;try rw[sS]
  iterate 6 refine AX ?_
  rw[Heap.set_comm ho6s];refine .frz (t:=6) rfl ((oN _ _ ho6s).trans hb6) ?_;iterate 3 refine AX ?_
  refine⟨p,o1,?_,rfl,λr hr=>?_⟩
  ·rw[hamt];rfl
  rw[hamt]at hr ⊢;obtain⟨rfl,rfl⟩:=hp r hr;exact⟨by simp,rfl⟩
 iterate 8 refine AX ?_
 refine .p rfl (zA U120 rfl Z32 (tm rfl)) (.p rfl (zA U32 rfl Z9 (tm rfl)) ?_);refine AX ?_;refine .cl rfl call67 (evs2 rfl rfl) (cutSuffixA _ _ _) ?_;iterate 12 refine AX ?_
 refine .cx rfl (λhc47=>?_) (λhc47=>?_)
 ·have hamt:aeR l s=(2,(abQ yP (Lib.trimSuffix s l.cur).length (Lib.trimSuffix s l.cur)),0):=by unfold aeR;rw[aM (by simp[hc26]),aN hc47]
  iterate 4 refine AX ?_
  refine .p rfl (zC U69 rfl Z3 (tm rfl)) (.e0 (zL Z3 (tm rfl) zJ rfl rfl (.inl rfl) ((oN _ _ ho6).trans hbo) (lB rfl)) ?_);try first|rw[sS]|rw[sU aB]
  iterate 6 refine AX ?_
  refine .cl rfl call145 (.cons (tm rfl) (.cons (.func _) .nil)) (trimRightFuncA _ _) ?_;refine AX ?_;refine .s rfl (zB C149 (evs3 rfl rfl rfl) (aeW l hk hg b (abQ yP (Lib.trimSuffix s l.cur).length (Lib.trimSuffix s l.cur)) aA {o with kind:=2} ho bo _ (oS _ _ _))) ?_;rintro _ _ ⟨p,o1,rfl,rfl,hp,hpe1,hpe2⟩;try rw[sS]
  iterate 6 refine AX ?_
  rw[Heap.set_comm ho6s];refine .frz (t:=6) rfl ((oN _ _ ho6s).trans hb6) ?_;iterate 3 refine AX ?_
  refine⟨p,o1,?_,rfl,λr hr=>?_⟩
  ·rw[hamt];rfl
  rw[hamt]at hr ⊢;obtain⟨rfl,rfl⟩:=hp r hr;exact⟨by simp,rfl⟩
 iterate 8 refine AX ?_
 refine .p rfl (zA U120 rfl Z32 (tm rfl)) (.p rfl (zA U32 rfl Z9 (tm rfl)) ?_);refine AX ?_;refine .cl rfl call67 (evs2 rfl rfl) (cutSuffixA _ _ _) ?_;iterate 12 refine AX ?_
 refine .cx rfl (λhc68=>?_) (λhc68=>?_)
 ·have hamt:aeR l s=(1,(abQ yP (Lib.trimSuffix s l.pct).length (Lib.trimSuffix s l.pct)),-2):=by unfold aeR;rw[aM (by simp[hc26]),aM (by simp[hc47]),aN hc68]
  iterate 4 refine AX ?_
  refine .p rfl (zC U69 rfl Z3 (tm rfl)) (.e0 (zL Z3 (tm rfl) zJ rfl rfl (.inl rfl) ((oN _ _ ho6).trans hbo) (lB rfl)) ?_);try first|rw[sS]|rw[sU aB]
  iterate 6 refine AX ?_
  refine .cl rfl call145 (.cons (tm rfl) (.cons (.func _) .nil)) (trimRightFuncA _ _) ?_;refine AX ?_;refine .s rfl (zB C149 (evs3 rfl rfl rfl) (aeW l hk hg b (abQ yP (Lib.trimSuffix s l.pct).length (Lib.trimSuffix s l.pct)) aA {o with kind:=1} ho bo _ (oS _ _ _))) ?_;rintro _ _ ⟨p,o1,rfl,rfl,hp,hpe1,hpe2⟩;try rw[sS]
  iterate 3 refine AX ?_
  refine .al zr127 (λb14 hb14=>?_);have hn6_14:=Heap.ne_of (oS _ _ _) hb14;iterate 5 refine AX ?_
  have h6e:b6≠b14:=Heap.ne_of ((oN _ _ ho6s).trans (oS _ _ _)) hb14;have hoe14:bo≠b14:=Heap.ne_of (oS _ _ _) hb14;have h140:H.objs b14=none:=by have q:=hb14;rw[oN _ _ hoe14.symm,oN _ _ h6e.symm]at q;exact q
  refine AX ?_;refine .p rfl (zC U127 rfl Z3 (tm rfl)) ?_;iterate 2 refine AX ?_
  refine .p rfl (zC U127 rfl Z3 (tm rfl)) ?_;iterate 7 refine AX ?_
  refine .e0 (zL sizeOf127 (tm rfl) (tm rfl) rfl rfl (.inr ⟨_,rfl⟩) ((oN _ _ aB).trans ((oN _ _ aB).trans (oS _ _ _))) (lB rfl)) ?_;try first|rw[sS]|rw[sU aB]
  iterate 3 refine AX ?_
  rw[Heap.set_comm h6e.symm,sU ho6s];refine .dropb ((oN _ _ hoe14.symm).trans ((oN _ _ h6e.symm).trans h140)) ?_;rw[Heap.set_comm ho6s];refine .frz (t:=6) rfl ((oN _ _ ho6s).trans hb6) ?_;iterate 3 refine AX ?_
  refine⟨⟨p.digits,p.exp-2⟩,o1,?_,rfl,λr hr=>?_⟩
  ·rw[hamt];rfl
  rw[hamt]at hr ⊢;obtain⟨rfl,rfl⟩:=hp r hr;exact⟨rfl,rfl⟩
 have hamt:aeR l s=(0,s,0):=by unfold aeR;rw[aM (by simp[hc26]),aM (by simp[hc47]),aM (by simp[hc68])]
 iterate 7 refine AX ?_
 refine .s rfl (zB C149 (evs3 rfl rfl rfl) (aeW l hk hg b s aA {o with kind:=o.kind} ho bo _ ((oN _ _ ho6).trans hbo))) ?_;rintro _ _ ⟨p,o1,rfl,rfl,hp,hpe1,hpe2⟩;try rw[sS]
 iterate 6 refine AX ?_
 rw[Heap.set_comm ho6s];refine .frz (t:=6) rfl ((oN _ _ ho6s).trans hb6) ?_;iterate 2 refine AX ?_
 refine⟨p,o1,?_,rfl,λr hr=>?_⟩
 ·rw[hamt];rfl
 rw[hamt]at hr ⊢;obtain⟨rfl,rfl⟩:=hp r hr;exact⟨by simp,by rw[ho0]⟩
end
section
open Go Go.RowKit
set_option maxRecDepth 100000
def EntN.zero:EntN:=⟨0,0,0,false,false⟩
def ahO(l:Loc)(u:List UInt8):Option (List UInt8×Bool):=
 if Lib.hasPrefix u [40]=true then(if Lib.hasSuffix (Lib.trimPrefix u [40]) [41]=true then some (acO yP (Lib.trimSuffix (Lib.trimPrefix u [40]) [41]),true)else none)
 else some (aaV yP (aeD l u).1.length (aeD l u).1,(aeD l u).2)
def ayY(l:Loc)(v:List UInt8)(neg:Bool):EntN×Int:=
 match agS l (aeR l v).2.1 with
 |none=>(EntN.zero,3)
 |some (d,e,k,gr,x)=>
  if(mkN neg d (e+(aeR l v).2.2)).2≠0 then(EntN.zero,2)
  else if yK (agX (mkN neg d (e+(aeR l v).2.2)).1.1 (mkN neg d (e+(aeR l v).2.2)).1.2.1 (mkN neg d (e+(aeR l v).2.2)).1.2.2)=3 then(EntN.zero,2)
  else(⟨agX (mkN neg d (e+(aeR l v).2.2)).1.1 (mkN neg d (e+(aeR l v).2.2)).1.2.1 (mkN neg d (e+(aeR l v).2.2)).1.2.2,(aeR l v).1,k,gr,x⟩,0)
def ajE(l:Loc)(u:List UInt8):EntN×Int:=match ahO l u with|none=>(EntN.zero,3)|some (v,neg)=>ayY l v neg
theorem btV{s:List UInt8}{e:Int}{k:Nat}{x:Bool}(h:agS l s=some (d,e,k,gr,x)):Digs d∧d.length≤2*s.length∧e≤2000000000∧ -1000000000-(s.length:Int)≤e:=by
 unfold agS at h;cases hh:aoA l s with
 |none=>rw[hh]at h;cases h
 |some q=>
  obtain⟨t,n,y⟩:=q;rw[hh]at h;simp only at h;cases hb:apL l t with
  |none=>rw[hb]at h;cases h
  |some q=>
   obtain⟨d2,k2,g2⟩:=q;rw[hb]at h;injection h with h
   injection h with h1 h2
   injection h2 with h2 h3
   subst h1;subst h2;have a:=awG hh;have b:=bpJ hb;exact⟨b.1,by omega,by omega,by omega⟩
theorem ciZ(l:Loc)(s:List UInt8): -2≤(aeR l s).2.2∧(aeR l s).2.2≤0:=by
 unfold aeR
 repeat' split
 all_goals simp
theorem ccS(neg:Bool)(ds:List UInt8)(e:Int):agX neg ds e<18446744073709551616:=by
 have:=biE ds e;unfold agX abA;split<;>omega
theorem bhR(l:Loc)(hk:l.ok)(hg:l.grp≠[])(f:Nat→List AV)(hf:ROK f)(s:List UInt8)(hs:s.length≤1000)(b:Nat)(H:Heap)(hb:H.objs b=some (.box 227 (adM f))):ACall prog 25 [erA l b,.str s] H (λy H'=>y= .tuple [.agg (ajE l (acO yP s)).1.cs,.int .i64 (ajE l (acO yP s)).2]∧∃f',ROK f'∧H'=H.set b (.box 227 (adM f'))):=by
 have htl:=aqG yP s;refine .of_body func25 rfl ntmps25 results25 rfl ?_;iterate 2 refine AX ?_
 refine .al zr69 (λb4 hb4=>?_);iterate 11 refine AX ?_
 refine .cond_false (tm rfl) (by exact aS aA) ?_;iterate 5 refine AX ?_
 refine .cl rfl call64 (.cons (tm rfl) (.cons (.func _) .nil)) (trimFuncA s _) ?_;iterate 6 refine AX ?_
 refine .cl rfl C66 (.cons (tm rfl) (.cons (zO rfl) .nil)) (cutPrefixA _ _ _) ?_;iterate 7 refine AX ?_
 refine .meet (λenv H2=>∃(v:List UInt8)(neg:Bool),ahO l (acO yP s)=some (v,neg)∧v.length≤1000∧env=[(0,erA l b),(4,.ptr (some ⟨b4,0,none⟩)),(5,.int .i64 0),(6,.str v),(7,.bool neg)]∧H2=H.set b4 (.box 69 (EntN.cs EntN.zero))) ?_ ?_
 ·iterate 5 refine AX ?_
  refine .cx rfl (λhc25=>?_) (λhc25=>?_)
  ·iterate 9 refine AX ?_
   refine .cl rfl call67 (.cons (tm rfl) (.cons (zO rfl) .nil)) (cutSuffixA _ _ _) ?_;iterate 13 refine AX ?_
   refine .cx rfl (λhc32=>?_) (λhc32=>?_)
   ·have hin:ahO l (acO yP s)=none:=by unfold ahO;rw[aN hc25,aM (by simpa using hc32)]
    iterate 2 refine AX ?_
    refine .p rfl (yU zr69 pl69 .nil rfl) ?_;iterate 4 refine AX ?_
    refine .frz (t:=4) rfl hb4 ?_;iterate 4 refine AX ?_
    refine⟨?_,f,hf,(Heap.set_self hb).symm⟩;unfold ajE;rw[hin];rfl
   have hin:ahO l (acO yP s)=some (acO yP (Lib.trimSuffix (Lib.trimPrefix (acO yP s) [40]) [41]),true):=by unfold ahO;rw[aN hc25,aN (by simpa using hc32)]
   iterate 4 refine AX ?_
   refine .cl rfl call64 (.cons (tm rfl) (.cons (.func _) .nil)) (trimFuncA _ _) ?_;iterate 3 refine AX ?_
   refine .mk ⟨_,true,hin,by have:=aqG yP (Lib.trimSuffix (Lib.trimPrefix (acO yP s) [40]) [41]);have:=adI (Lib.trimPrefix (acO yP s) [40]) [41];have:=afM (acO yP s) [40];omega,rfl,rfl⟩ (zK rfl (zK rfl (zK rfl (zK rfl (zR rfl (by(rw[show Lib.hasPrefix (acO yP s) [40]=true from hc25])) yF))))) (hRa _)
  have hin:ahO l (acO yP s)=some (aaV yP (aeD l (acO yP s)).1.length (aeD l (acO yP s)).1,(aeD l (acO yP s)).2):=by unfold ahO;rw[aM (by simp[hc25])]
  iterate 4 refine AX ?_
  refine .cl rfl call68 (evs2 rfl rfl) (auR l b _ _) ?_;iterate 9 refine AX ?_
  refine .cl rfl C69 (.cons (tm rfl) (.cons (.func _) .nil)) (trimLeftFuncA _ _) ?_;iterate 3 refine AX ?_
  refine .mk ⟨_,_,hin,by have:=aeC yP (aeD l (acO yP s)).1.length (aeD l (acO yP s)).1;have:=baL l (acO yP s);omega,rfl,rfl⟩ (zK rfl (zK rfl (zK rfl (zK rfl (zR rfl aD yF))))) (hRa _)
 rintro _ _ ⟨v,neg,hin,hvl,rfl,rfl⟩;have hh4:=hb4;iterate 2 refine AX ?_
 refine .al zr69 (λb9 hb9=>?_);have hn4_9:=Heap.ne_of (oS _ _ _) hb9;iterate 3 refine AX ?_
 have h4b:b4≠b:=by intro q;rw[←q,hb4]at hb;cases hb
 have hb90:H.objs b9=none:=by have q:=hb9;rw[oN _ _ hn4_9.symm]at q;exact q
 have h9b:b9≠b:=by intro q;rw[←q,hb90]at hb;cases hb
 have hal:=ccY l v;have hsh:=ciZ l v;iterate 3 refine AX ?_
 refine .s rfl (zB call70 (evs3 rfl rfl rfl) (bdD l hk hg b v hvl EntN.zero ⟨rfl,rfl⟩ rfl b9 _ (oS _ _ _))) ?_;rintro _ _ ⟨p,o1,rfl,rfl,hp⟩;rw[sS];iterate 3 refine AX ?_
 refine .al zr127 (λb10 hb10=>?_);have hn4_10:=Heap.ne_of (oS _ _ _) hb10;have hn9_10:=Heap.ne_of (oS _ _ _) hb10;iterate 4 refine AX ?_
 refine .frz (t:=10) rfl (hb10) ?_;iterate 7 refine AX ?_
 refine .cx rfl (λhc51=>?_) (λhc51=>?_)
 ·have hnn:agS l (aeR l v).2.1=none:=by simpa using hc51
  iterate 2 refine AX ?_
  refine .p rfl (yU zr69 pl69 .nil rfl) ?_;iterate 4 refine AX ?_
  refine .dropb (fS hb9 _) ?_;refine .frz (t:=4) rfl hb4 ?_;iterate 3 refine AX ?_
  refine⟨?_,f,hf,(Heap.set_self hb).symm⟩;unfold ajE;rw[hin];show _=AV.tuple [.agg (ayY l v neg).1.cs,.int .i64 (ayY l v neg).2];have hfp:ayY l v neg=(EntN.zero,3):=by
   unfold ayY;rw[hnn]
  rw[hfp];rfl
 obtain⟨⟨d,e,k,gr,x⟩,hnn⟩:=Option.isSome_iff_exists.1 (show(agS l (aeR l v).2.1).isSome=true by simpa using hc51);obtain⟨rfl,rfl⟩:=hp _ hnn;obtain⟨hdd,hdl,he2,he3⟩:=btV hnn;iterate 5 refine AX ?_
 refine .p rfl (zA U127 rfl Z9 (tm rfl)) ?_;refine AX ?_;refine .p rfl (zA U127 rfl Z3 (tm rfl)) ?_;refine AX ?_;refine .cl rfl C71 (evs3 rfl rfl rfl) (akK neg d (e+(aeR l v).2.2) hdd aA (by constructor<;>omega) _) ?_;iterate 3 refine AX ?_
 refine .al zr61 (λb12 hb12=>?_);have hn4_12:=Heap.ne_of (oS _ _ _) hb12;have hn9_12:=Heap.ne_of (oS _ _ _) hb12;iterate 4 refine AX ?_
 refine .frz (t:=12) rfl (hb12) ?_;iterate 7 refine AX ?_
 refine .cx rfl (λhc63=>?_) (λhc63=>?_)
 ·have hm0:(mkN neg d (e+(aeR l v).2.2)).2≠0:=by simpa using hc63
  iterate 2 refine AX ?_
  refine .p rfl (yU zr69 pl69 .nil rfl) ?_;iterate 4 refine AX ?_
  refine .dropb (fS hb9 _) ?_;refine .frz (t:=4) rfl hb4 ?_;iterate 3 refine AX ?_
  refine⟨?_,f,hf,(Heap.set_self hb).symm⟩;unfold ajE;rw[hin];show _=AV.tuple [.agg (ayY l v neg).1.cs,.int .i64 (ayY l v neg).2];have hfp:ayY l v neg=(EntN.zero,2):=by
   unfold ayY;rw[hnn];simp only;rw[aN hm0]
  rw[hfp];rfl
 have hm0:¬(mkN neg d (e+(aeR l v).2.2)).2≠0:=by simpa using hc63
 iterate 4 refine AX ?_
 refine .draw [(0,true),(1,true),(2,true),(3,true),(4,true),(5,false),(6,true),(7,true),(8,true),(9,true),(10,false)] rfl aE ?_;iterate 2 refine AX ?_
 refine .p rfl rfl (zA U120 rfl sizeOf117 (tm rfl)) ?_;iterate 2 refine AX ?_
 refine .s rfl rfl (zB call72 (evs2 rfl rfl) (bfC f hf (mkN neg d (e+(aeR l v).2.2)).1.1 (mkN neg d (e+(aeR l v).2.2)).1.2.1 (mkN neg d (e+(aeR l v).2.2)).1.2.2 (amS hdd) b _ ((oN _ _ h9b.symm).trans ((oN _ _ h4b.symm).trans hb)))) ?_;rintro _ _ ⟨rfl,f1,hf1,rfl⟩;rw[Heap.set_comm h9b,Heap.set_comm h4b];iterate 3 refine AX ?_
 refine .p rfl rfl (zC U69 rfl Z25 (tm rfl)) (.s0 rfl (zL Z25 (tm rfl) (tm rfl) rfl rfl (.inl rfl) (oS _ _ _) (lB rfl)) ?_);rintro _ _ ⟨rfl,hH⟩;obtain rfl:=hH.symm;try first|rw[sS]|rw[sU aB]
 iterate 4 refine AX ?_
 refine .p rfl (zC U69 rfl Z25 (tm rfl)) ?_;refine AX ?_;refine .cl rfl C31 (evs1 rfl) (acY (agX (mkN neg d (e+(aeR l v).2.2)).1.1 (mkN neg d (e+(aeR l v).2.2)).1.2.1 (mkN neg d (e+(aeR l v).2.2)).1.2.2) (ccS _ _ _) _) ?_;iterate 3 refine AX ?_
 refine .cx rfl (λhc78=>?_) (λhc78=>?_)
 ·have hk3:yK (agX (mkN neg d (e+(aeR l v).2.2)).1.1 (mkN neg d (e+(aeR l v).2.2)).1.2.1 (mkN neg d (e+(aeR l v).2.2)).1.2.2)=3:=by omega
  iterate 2 refine AX ?_
  refine .p rfl (yU zr69 pl69 .nil rfl) ?_;iterate 4 refine AX ?_
  refine .dropb ((oN _ _ hn4_9.symm).trans ((oN _ _ h9b).trans hb90)) ?_;refine .frz (t:=4) rfl ((oN _ _ h4b).trans hb4) ?_;iterate 3 refine AX ?_
  refine⟨?_,f1,hf1,rfl⟩;unfold ajE;rw[hin];show _=AV.tuple [.agg (ayY l v neg).1.cs,.int .i64 (ayY l v neg).2];have hfp:ayY l v neg=(EntN.zero,2):=by
   unfold ayY;rw[hnn];simp only;rw[aM hm0,aN hk3]
  rw[hfp];rfl
 have hk3:¬yK (agX (mkN neg d (e+(aeR l v).2.2)).1.1 (mkN neg d (e+(aeR l v).2.2)).1.2.1 (mkN neg d (e+(aeR l v).2.2)).1.2.2)=3:=by omega
 iterate 9 refine AX ?_
 refine .dropb ((oN _ _ hn4_9.symm).trans ((oN _ _ h9b).trans hb90)) ?_;refine .frz (t:=4) rfl ((oN _ _ h4b).trans hb4) ?_;iterate 2 refine AX ?_
 refine⟨?_,f1,hf1,rfl⟩;unfold ajE;rw[hin];show _=AV.tuple [.agg (ayY l v neg).1.cs,.int .i64 (ayY l v neg).2];have hfp:ayY l v neg=(⟨(agX (mkN neg d (e+(aeR l v).2.2)).1.1 (mkN neg d (e+(aeR l v).2.2)).1.2.1 (mkN neg d (e+(aeR l v).2.2)).1.2.2),(aeR l v).1,k,gr,x⟩,0):=by
  unfold ayY;rw[hnn];simp only;rw[aM hm0,aM hk3]
 rw[hfp];rfl
end
end Go.Proofs.YteedncdcbgplfaaGreatDoor
