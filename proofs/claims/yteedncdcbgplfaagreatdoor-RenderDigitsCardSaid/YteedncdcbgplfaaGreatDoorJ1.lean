import Derived.Test.YteedncdcbgplfaaGreatDoorT1
set_option maxHeartbeats 1000000
namespace Go.Proofs.YteedncdcbgplfaaGreatDoor
open Go.Proofs.Tryz
open Go Go.RowKit
variable{i:Nat}{k:Int}
structure ItN where
 kind:Int
 text:List UInt8
variable{l:List ItN}
structure SecN where
 items:List ItN
 grouped:Bool
 scale:Int
def cmL(n b0 b1 b2 b3:Nat):Nat:=
 if b0<128 then 1
 else if b0/32=6∧(1<n∧b1/64=2)then(if b0%32*64+b1%64≥128 then 2 else 0)
 else if b0/16=14∧(1<n∧b1/64=2)∧(2<n∧b2/64=2)then
  (if b0%16*4096+b1%64*64+b2%64≥2048∧(b0%16*4096+b1%64*64+b2%64<55296∨(57344≤b0%16*4096+b1%64*64+b2%64∧b0%16*4096+b1%64*64+b2%64≤1114111))then 3 else 0)
 else if b0/8=30∧(1<n∧b1/64=2)∧(2<n∧b2/64=2)∧(3<n∧b3/64=2)then
  (if b0%8*262144+b1%64*4096+b2%64*64+b3%64≥65536∧(b0%8*262144+b1%64*4096+b2%64*64+b3%64<55296∨(57344≤b0%8*262144+b1%64*4096+b2%64*64+b3%64∧b0%8*262144+b1%64*4096+b2%64*64+b3%64≤1114111))then 4 else 0)
 else 0
def baQ(s:List UInt8):Nat:=if s=[]then 0 else cmL s.length (s.getD 0 0).toNat (s.getD 1 0).toNat (s.getD 2 0).toNat (s.getD 3 0).toNat
def qM(l:List ItN)(k:Int):Nat:=l.countP (λx=>decide (x.kind=k))
def atK(l:List ItN)(k:Int):Nat:=l.findIdx (λx=>decide (x.kind=k))
def ajZ(x:ItN):Bool:=
 if x.kind=1 then decide (0<baQ x.text∧baQ x.text=x.text.length)
 else if x.kind=2 then decide (x.text=[48]∨x.text=[35]∨x.text=[63])
 else if x.kind=5 then decide (x.text=[43]∨x.text=[45])
 else decide (1≤x.kind∧x.kind≤9∧x.text=[])
def acS:List ItN→Bool
 |x::y::r=>decide (x.kind=2∧y.kind=2)||acS (y::r)
 |_=>false
def zZ(l:List ItN)(ks:List Int):Nat:=l.findIdx (λx=>decide (x.kind∈ks))
def ahQ(l:List ItN):List ItN:=l.take (zZ l [3,5,6])
def shp(l:List ItN):Int:=
 if qM l 7+qM l 8>0∧qM l 2+qM l 3+qM l 4+qM l 5+qM l 6>0 then 0
 else if qM l 7=1∧qM l 8=0 then 5
 else if qM l 7=0∧qM l 8>0∧qM l 9=0 then 6
 else if qM l 7=0∧qM l 8=0∧qM l 2+qM l 3+qM l 4+qM l 5+qM l 6=0 then 1
 else if qM l 6=1∧qM l 3+qM l 4+qM l 5=0 then
  (if 0<(l.take (zZ l [6])).length∧((l.take (zZ l [6])).getD ((l.take (zZ l [6])).length-1) ⟨0,[]⟩).kind=2∧qM (l.take (zZ l [6])) 2≤30∧1≤qM (l.drop (zZ l [6])) 2∧qM (l.drop (zZ l [6])) 2≤4 then 4 else 0)
 else if qM l 6=0∧qM l 2>0∧qM l 3≤1∧qM l 4≤1∧qM l 5≤1∧qM l 7=0 then
  (if qM ((l.take (zZ l [5])).take (zZ (l.take (zZ l [5])) [3])) 2>30∨qM ((l.take (zZ l [5])).drop (zZ (l.take (zZ l [5])) [3])) 2>30 then 0
   else if(l.drop (zZ l [5])).length=0 then 2
   else if zZ (l.drop (zZ l [5])) [3]=(l.drop (zZ l [5])).length∧qM (l.take (zZ l [5])) 2>0∧1≤qM (l.drop (zZ l [5])) 2∧qM (l.drop (zZ l [5])) 2≤4 then 3 else 0)
 else 0
def yH(s:SecN):Int:=
 if s.items.all ajZ=false then 0
 else if shp s.items=2 then(if 0≤s.scale∧s.scale≤9∧(0<qM (ahQ s.items) 2∨s.scale=0)∧(s.grouped=false∨acS (ahQ s.items)=true)then 2 else 0)
 else if s.grouped=false∧s.scale=0 then shp s.items else 0
def cmJ(l:List ItN):Nat:=min (atK l 3) (min (atK l 5) (atK l 6))
theorem asW(l:List ItN):zZ l [3,5,6]=cmJ l:=by
 unfold zZ cmJ atK;induction l with
 |nil=>rfl
 |cons x l ih=>
  simp only[List.findIdx_cons];by_cases h3:x.kind=3
  ·simp[h3]
  by_cases h5:x.kind=5
  ·simp[h5]
  by_cases h6:x.kind=6
  ·simp[h6]
  simp[h3,h5,h6]at *;try omega
def cmN(s:List UInt8)(n:Nat):Prop:=∀i,1≤i→i<n→128≤(s.getD i 0).toNat∧(s.getD i 0).toNat<192
instance (s:List UInt8) (n:Nat):Decidable (cmN s n):=decidable_of_iff (∀i,i<n→1≤i→128≤(s.getD i 0).toNat∧(s.getD i 0).toNat<192) ⟨λh i a b=>h i b a,λh i a b=>h i b a⟩
section
open Go Go.RowKit
set_option maxRecDepth 100000
theorem zr57:ZR 57 [.int .i64 0,.str []]:=ZRi V57
theorem pl57:PL 57 [(0,1),(1,1)]:=PLi U57
def ItN.cs(x:ItN):List AV:=[.int .i64 x.kind,.str x.text]
def ItN.av(x:ItN):AV:=.agg x.cs
def itS(l:List ItN)(tl:Tail):AV:=.slice 2 (l.map ItN.av) tl
def SecN.cs(s:SecN)(tl:Tail):List AV:=[itS s.items tl,.bool s.grouped,.int .i64 s.scale]
theorem ckW{l:List Int}{v:Int}(h:∀q,q<i→l[q]?≠some v)(hi:l.length≤i):v∉l:=λhm=>by
 obtain⟨q,hq,e⟩:=eX hm;exact h q aA (by rw[aX hq,e])
theorem chC{α:Type}{l:List α}{v:α}(h:∀q,q<i→l[q]?≠some v)(hi:i<l.length)(hv:¬v=l[i]):∀q,q<i+1→l[q]?≠some v:=λq hq e=>by
 rcases bX q i with hq2|hq2
 ·exact h q hq2 e
 have:q=i:=by omega
 subst this;rw[aX hi]at e;exact hv (Option.some.inj e).symm
theorem bcO{α:Type}{p:α→Bool}{l:List α}(h:∀q x,q<i→l[q]?=some x→p x=false)(hi:i<l.length)(hv:p l[i]=false):∀q x,q<i+1→l[q]?=some x→p x=false:=λq x hq e=>by
 rcases bX q i with hq2|hq2
 ·exact h q x hq2 e
 have:q=i:=by omega
 subst this;rw[aX hi]at e;rw[←Option.some.inj e];exact hv
theorem bkK{α:Type}{p:α→Bool}{l:List α}(h:∀q x,q<i→l[q]?=some x→p x=false)(hi:i<l.length)(hv:p l[i]=true):l.findIdx p=i:=by
 rw[List.findIdx_eq hi];exact⟨hv,λj hj=>by rw[h j _ hj (aX aA)]⟩
theorem bcN{α:Type}{p:α→Bool}{l:List α}(h:∀q x,q<i→l[q]?=some x→p x=false)(hi:l.length≤i):l.findIdx p=l.length:=by
 rw[List.findIdx_eq_length];intro x hx;obtain⟨q,hq,e⟩:=eX hx;rw[h q x aA (by rw[aX hq,e])]
def cdJ(l:List Int)(tl:Tail)(v:Int)(H:Heap):Nat→Env→Heap→Prop:=λk env H1=>∃i:Nat,i≤l.length∧(∀q,q<i→l[q]?≠some v)∧env=[(0,.slice 1 (l.map (.int .i64)) tl),(1,.int .i64 v),(6,.slice 1 (l.map (.int .i64)) tl),(7,.int .i64 (l.length:Int)),(8,.int .i64 (i:Int))]∧H=H1∧k=l.length-i
theorem baP(l:List Int)(tl:Tail)(v:Int)(hl:l.length≤1000)(H:Heap):ACall prog 243 [.slice 1 (l.map (.int .i64)) tl,.int .i64 v] H (λy H'=>∃q:Int,y= .int .i64 q∧(0≤q↔v∈l)∧H'=H):=by
 refine .of_body func243 rfl ntmps243 results243 rfl ?_;iterate 14 refine AX ?_
 refine .loopW (cdJ l tl v H) (l.length) ⟨0,Nat.zero_le _,λq h=>by omega,rfl,rfl,rfl⟩ sX (hRa _) ?_;rintro _ _ _ ⟨i,hi,hno,rfl,rfl,rfl⟩;iterate 6 refine AX ?_
 refine .cx rfl (λhc9=>?_) (λhc9=>?_)
 ·iterate 20 refine AX ?_
  refine .cx rfl (λhc16=>?_) (λhc16=>?_)
  ·iterate 13 refine AX ?_
   exact⟨_,rfl,⟨λ_=>by rw[show v=_ from hc16];exact cF _,λ_=>by omega⟩,rfl⟩
  iterate 8 refine AX ?_
  refine Round.mk ⟨i+1,by omega,chC hno aA hc16,rfl,rfl,rfl⟩ sX (hRa _) aA
 iterate 12 refine AX ?_
 exact⟨_,rfl,⟨λh=>by omega,λh=>absurd h (ckW hno aA)⟩,rfl⟩
theorem auX(l:List Int)(tl:Tail)(v:Int)(hl:l.length≤1000):Fn 174 [.slice 1 (l.map (.int .i64)) tl,.int .i64 v] (.bool (decide (v∈l))):=by
 intro H;refine .of_body func174 rfl ntmps174 results174 rfl ?_;iterate 9 refine AX ?_
 refine .s rfl (zB call243 (evs2 rfl rfl) (baP _ _ _ aB _)) ?_;rintro _ _ ⟨q,rfl,hq,hH⟩;obtain rfl:=hH.symm;iterate 6 refine AX ?_
 exact⟨congrArg AV.bool (aQ.2 hq),rfl⟩
theorem buU(x:ItN)(ks:List Int)(tl:Tail)(hl:ks.length≤1000):Fn 236 [x.av,.iptr [.slice 1 (ks.map (.int .i64)) tl]] (.bool (decide (x.kind∈ks))):=by
 intro H;refine .of_body func236 rfl ntmps236 results236 rfl ?_;iterate 9 refine AX ?_
 refine .p rfl (zA U57 rfl Z3 (tm rfl)) ?_;refine AX ?_;refine .cl rfl call174 (evs2 rfl rfl) (auX _ _ _ aB _) ?_;iterate 5 refine AX ?_
 exact⟨rfl,rfl⟩
def ceN(l:List ItN)(tl:Tail)(f:FuncId)(cap:List AV)(p:ItN→Bool)(H:Heap):Nat→Env→Heap→Prop:=λk env H1=>∃i:Nat,i≤l.length∧(∀q x,q<i→l[q]?=some x→p x=false)∧env=[(0,itS l tl),(1,.func f cap),(6,itS l tl),(7,.int .i64 (l.length:Int)),(8,.int .i64 (i:Int))]∧H=H1∧k=l.length-i
theorem awD(l:List ItN)(tl:Tail)(hl:l.length≤100000)(f:FuncId)(cap:List AV)(p:ItN→Bool)(H:Heap)(hent:∀args w,(callFunc f args).run prog w= .ok (.enter f args) w)(hf:∀x,ACall prog f (x.av::cap) H (λy H'=>y= .bool (p x)∧H'=H)):ACall prog 172 [itS l tl,.func f cap] H (λy H'=>y= .int .i64 (if l.findIdx p=l.length then-1 else(l.findIdx p:Nat))∧H'=H):=by
 refine .of_body func172 rfl ntmps172 results172 rfl ?_;iterate 14 refine AX ?_
 refine .loopW (ceN l tl f cap p H) (l.length) ⟨0,Nat.zero_le _,λq x h=>by omega,rfl,rfl,rfl⟩ sX (hRa _) ?_;rintro _ _ _ ⟨i,hi,hno,rfl,rfl,rfl⟩;iterate 6 refine AX ?_
 refine .cx rfl (λhc9=>?_) (λhc9=>?_)
 ·iterate 17 refine AX ?_
  refine .e rfl (ahA hent (tm rfl) (evs1 rfl) (hf _)) ?_;iterate 2 refine AX ?_
  refine .cx rfl (λhc16=>?_) (λhc16=>?_)
  ·iterate 13 refine AX ?_
   have hh:=bkK hno aA hc16;refine⟨?_,rfl⟩;rw[hh,aJ];rfl
  iterate 8 refine AX ?_
  refine Round.mk ⟨i+1,by omega,bcO hno aA (by simpa using hc16),rfl,rfl,rfl⟩ sX (hRa _) aA
 iterate 12 refine AX ?_
 have hh:=bcN hno aA;refine⟨?_,rfl⟩;rw[hh,aN rfl];rfl
theorem ahI(l:List ItN)(tl:Tail)(hl:l.length≤100000)(ks:List Int)(tk:Tail)(hk:ks.length≤1000):Fn 163 [itS l tl,.slice 1 (ks.map (.int .i64)) tk] (.tuple [itS (l.take (zZ l ks)) .shared,itS (l.drop (zZ l ks)) tl]):=by
 intro H;have hcl:zZ l ks≤l.length:=List.findIdx_le_length;refine .of_body func163 rfl ntmps163 results163 rfl ?_;iterate 3 refine AX ?_
 refine .p rfl (zE (aeH (sz:=2) (tl:=.full))) ?_;refine .p rfl (zE (aeH (sz:=2) (tl:=.full))) ?_;iterate 6 refine AX ?_
 refine .cl rfl call172 (evs2 rfl rfl) (awD l tl hl _ _ (λx=>decide (x.kind∈ks)) _ call236 (λx=>buU x ks tk hk _)) ?_;rw[show l.findIdx (λx=>decide (x.kind∈ks))=zZ l ks from rfl];generalize hq:(if zZ l ks=l.length then(-1:Int)else((zZ l ks:Nat):Int))=q;have hq1:(q<0→zZ l ks=l.length)∧(¬q<0→q=(zZ l ks:Nat)):=by rw[←hq];split<;>omega
 iterate 10 refine AX ?_
 refine .cx rfl (λhc11=>?_) (λhc11=>?_)
 ·have hq2:=hq1.1 hc11;iterate 7 refine AX ?_
  refine .draw [(0,true),(1,true),(2,true),(3,true),(4,true),(5,true),(6,true),(7,true)] rfl aE ?_;iterate 12 refine AX ?_
  refine⟨?_,rfl⟩;rw[hq2];rfl
 have hq2:=hq1.2 aA;iterate 3 refine AX ?_
 refine .draw [(0,true),(1,true),(2,true),(3,true),(4,true),(5,true),(6,true),(7,true)] rfl aE ?_;iterate 12 refine AX ?_
 refine⟨?_,rfl⟩;rw[hq2];rfl
theorem alM(s:SecN)(tl:Tail)(hl:s.items.length≤100000):Fn 85 [.agg (s.cs tl)] (itS (ahQ s.items) .shared):=by
 intro H;refine .of_body func85 rfl ntmps85 results85 rfl ?_;iterate 3 refine AX ?_
 refine .p rfl (zE (aeH (sz:=2) (tl:=.full))) ?_;iterate 4 refine AX ?_
 refine .p rfl (zA U52 rfl Z50 (tm rfl)) ?_;refine AX ?_;refine .e rfl (awY U30 Z3 V3 rfl rfl rfl (.cons zJ (.inl rfl) (.cons zJ (.inl rfl) (.cons zJ (.inl rfl) .nil))) (afQ ⟨rfl,rfl⟩ (afQ ⟨rfl,rfl⟩ (afQ ⟨rfl,rfl⟩ brW)))) (.cl rfl C163 (evs2 rfl rfl) (ahI s.items tl hl [3,5,6] _ aC _) ?_);iterate 15 refine AX ?_
 exact⟨rfl,rfl⟩
theorem bkQ(hi:i<l.length):qM (l.take (i+1)) k=qM (l.take i) k+(if l[i].kind=k then 1 else 0):=by
 unfold qM;rw[←cI hi,List.countP_append];by_cases h:l[i].kind=k<;>simp[h]
theorem alA(l:List ItN)(k:Int):qM l k≤l.length:=List.countP_le_length
theorem bpK(h:∀q,1≤q→q<i→¬((l.getD (q-1) ⟨0,[]⟩).kind=2∧(l.getD q ⟨0,[]⟩).kind=2))(hi:l.length≤i):acS l=false:=by
 induction l generalizing i with
 |nil=>rfl
 |cons x l ih=>
  cases l with
  |nil=>rfl
  |cons y r=>
   rw[acS,dQ];simp only[aW]at hi;refine⟨aS λq=>h 1 aA aA ⟨q.1,q.2⟩,ih (i:=i-1) (λq h1 h2=>?_) aG⟩;have:=h (q+1) aA aA;rw[show q+1-1=(q-1)+1 by omega,dF,dF]at this;exact this
theorem bpL(h1:1≤i)(h2:i<l.length)(h:(l.getD (i-1) ⟨0,[]⟩).kind=2∧(l.getD i ⟨0,[]⟩).kind=2):acS l=true:=by
 induction l generalizing i with
 |nil=>simp at h2
 |cons x l ih=>
  cases l with
  |nil=>simp at h2;omega
  |cons y r=>
   rw[acS,dB];by_cases hi:i=1
   ·subst hi;exact .inl (aU h)
   refine .inr (ih (i:=i-1) aA (by simp at h2 ⊢;omega) ?_);rw[show i-1=(i-2)+1 by omega,dF,show i=(i-2)+1+1 by omega,dF]at h;rw[show i-1-1=i-2 by omega,show i-1=(i-2)+1 by omega];exact h
theorem asJ(h:i<l.length):(l.getD i ⟨0,[]⟩)=l[i]:=by
 rw[aP,aX h];rfl
def btB(l:List ItN)(tl:Tail)(H:Heap):Nat→Env→Heap→Prop:=λk env H1=>∃i:Nat,i≤l.length∧env=[(3,.int .i64 (qM (l.take i) 2:Int)),(6,itS l tl),(7,.int .i64 (l.length:Int)),(8,.int .i64 (i:Int))]∧H=H1∧k=l.length-i
theorem adR(l:List ItN)(tl:Tail)(hl:l.length≤100000):Fn 84 [itS l tl] (.int .i64 (qM l 2:Int)):=by
 intro H;have hcl:=λi=>alA (l.take i) 2;have htl:=λi=>aV (i:=i) (l:=l);refine .of_body func84 rfl ntmps84 results84 rfl ?_;iterate 19 refine AX ?_
 refine .loopW (btB l tl H) (l.length) ⟨0,Nat.zero_le _,rfl,rfl,rfl⟩ sX (hRa _) ?_;rintro _ _ _ ⟨i,hi,rfl,rfl,rfl⟩;iterate 6 refine AX ?_
 refine .cx rfl (λhc9=>?_) (λhc9=>?_)
 ·have hci:=hcl i;rw[htl]at hci;iterate 8 refine AX ?_
  refine .al zr57 (λb5 hb5=>?_);iterate 3 refine AX ?_
  refine .frz (t:=5) rfl (hb5) ?_;iterate 2 refine AX ?_
  refine .p rfl (zA U57 rfl Z3 (tm rfl)) ?_;iterate 4 refine AX ?_
  refine .cx rfl (λhc14=>?_) (λhc14=>?_)
  ·iterate 12 refine AX ?_
   have hnx:=bkQ (k:=2) (show i<l.length by omega);refine Round.mk ⟨i+1,by omega,rfl,rfl,rfl⟩ (zR rfl (by rw[hnx];first|(rw[aN (by exact hc14)];rfl)|(rw[aM (by exact hc14)];rfl)) sX) (hRa _) aA
  iterate 8 refine AX ?_
  have hnx:=bkQ (k:=2) (show i<l.length by omega);refine Round.mk ⟨i+1,by omega,rfl,rfl,rfl⟩ (zR rfl (by rw[hnx];first|(rw[aN (by exact hc14)];rfl)|(rw[aM (by exact hc14)];rfl)) sX) (hRa _) aA
 iterate 13 refine AX ?_
 have hil:i=l.length:=by omega
 subst hil;rw[cX];exact⟨rfl,rfl⟩
def bsX(l:List ItN)(tl:Tail)(H:Heap):Nat→Env→Heap→Prop:=λk env H1=>∃i:Nat,1≤i∧(∀q,1≤q→q<i→¬((l.getD (q-1) ⟨0,[]⟩).kind=2∧(l.getD q ⟨0,[]⟩).kind=2))∧env=[(3,itS l tl),(4,.int .i64 (i:Int))]∧H=H1∧k=l.length-i
theorem arR(s:SecN)(tl:Tail)(hl:s.items.length≤100000)(H:Heap):ACall prog 86 [.agg (s.cs tl)] H (λy H'=>∃q:Int,y= .int .i64 q∧decide (0≤q)=acS (ahQ s.items)∧H'=H):=by
 have hhl:(ahQ s.items).length≤100000:=by unfold ahQ;rw[aV];omega
 refine .of_body func86 rfl ntmps86 results86 rfl ?_;iterate 9 refine AX ?_
 refine .cl rfl call85 (evs1 rfl) (alM s tl hl _) ?_;generalize ahQ s.items=l at *;iterate 10 refine AX ?_
 refine .loopW (bsX l .shared H) (l.length-1) ⟨1,aZ _,λq h1 h2=>by omega,rfl,rfl,rfl⟩ sX (hRa _) ?_;rintro _ _ _ ⟨i,hi,hno,rfl,rfl,rfl⟩;iterate 9 refine AX ?_
 refine .cx rfl (λhc10=>?_) (λhc10=>?_)
 ·have ha:=asJ (l:=l) (show i-1<l.length by omega);have hb:=asJ (l:=l) (show i<l.length by omega);iterate 4 refine AX ?_
  refine .seqTo 27 (.bool (decide ((l.getD (i-1) ⟨0,[]⟩).kind=2∧(l.getD i ⟨0,[]⟩).kind=2))) [3,4] ?_ ?_
  ·iterate 5 refine AX ?_
   refine .p rfl (zA U57 rfl Z3 (tm rfl)) ?_;iterate 3 refine AX ?_
   refine zD (t:=20) rfl (λhg20=>?_) (λhg20=>?_)
   ·iterate 3 refine AX ?_
    refine .gp rfl rfl rfl aB (zA U57 rfl Z3 (tm rfl)) ?_;iterate 4 refine AX ?_
    exact⟨rfl,zS rfl (by(simp_all;done)) sX,rfl⟩
   iterate 8 refine AX ?_
   exact⟨rfl,zS rfl (by(simp_all;done)) sX,rfl⟩
  refine .sub [(27,_),(3,_),(4,_)] sX ?_;refine .cx rfl (λhc27=>?_) (λhc27=>?_)
  ·iterate 14 refine AX ?_
   exact⟨_,rfl,by rw[bpL hi aA hc27];exact aU aA,rfl⟩
  iterate 9 refine AX ?_
  refine Round.mk ⟨i+1,by omega,λq h1 h2=>(bX q i).elim (hno q h1) (λh=>by rw[show q=i by omega];exact hc27),rfl,rfl,rfl⟩ sX (hRa _) aA
 iterate 12 refine AX ?_
 exact⟨_,rfl,by rw[bpK hno aA];rfl,rfl⟩
end
section
open Go Go.RowKit
set_option maxRecDepth 100000
def dgo(s:List UInt8):Nat×Nat:=Lib.decodeGo ⟨s.toArray⟩
theorem bvI(s:List UInt8)(i:Nat):((⟨s.toArray⟩:ByteArray).get! i).toNat=(s.getD i 0).toNat:=by
 show((s.toArray)[i]!).toNat=_;rw[List.getElem!_toArray,List.getElem!_eq_getElem?_getD,aP];rfl
theorem ceV{s:List UInt8}(h:s≠[]):dgo s=Lib.decodeN s.length (s.getD 0 0).toNat (s.getD 1 0).toNat (s.getD 2 0).toNat (s.getD 3 0).toNat:=by
 have hs:(⟨s.toArray⟩:ByteArray).size=s.length:=by simp[ByteArray.size]
 have hp:=bV.2 h;unfold dgo Lib.decodeGo;rw[aM (by rw[hs];omega),Lib.decode_at];simp only[bvI,hs,gU,bZ]
theorem ciQ(n b0 b1 b2 b3:Nat):cmL n b0 b1 b2 b3=(if(Lib.decodeN n b0 b1 b2 b3).1=65533∧(Lib.decodeN n b0 b1 b2 b3).2=1 then 0 else(Lib.decodeN n b0 b1 b2 b3).2)∧1≤(Lib.decodeN n b0 b1 b2 b3).2∧(Lib.decodeN n b0 b1 b2 b3).2≤4∧((Lib.decodeN n b0 b1 b2 b3).2=1∨(Lib.decodeN n b0 b1 b2 b3).2≤n)∧(Lib.decodeN n b0 b1 b2 b3).1≤1114111∧((Lib.decodeN n b0 b1 b2 b3).1=65533→(Lib.decodeN n b0 b1 b2 b3).2=1∨(Lib.decodeN n b0 b1 b2 b3).2=3):=by
 unfold cmL Lib.decodeN
 repeat' split
 all_goals (first|omega|(simp only[]at *;omega))
theorem biJ(s:List UInt8):(((dgo s).2=0∨(dgo s).1=65533∧(dgo s).2=1)→baQ s=0)∧(¬((dgo s).2=0∨(dgo s).1=65533∧(dgo s).2=1)→baQ s=(dgo s).2)∧(dgo s).2≤4∧(dgo s).2≤s.length∧(dgo s).1≤1114111∧((dgo s).1=65533→(dgo s).2≤1∨(dgo s).2=3):=by
 by_cases h:s=[]
 ·subst h;refine⟨λ_=>rfl,λq=>absurd (Or.inl aC) q,by decide,by decide,by decide,λ_=>.inl aC⟩
 have e:=ceV h;have hp:=bV.2 h;obtain⟨h1,h2,h3,h4,h5,h6⟩:=ciQ s.length (s.getD 0 0).toNat (s.getD 1 0).toNat (s.getD 2 0).toNat (s.getD 3 0).toNat;unfold baQ;rw[aM h,h1,e];refine⟨λq=>aK,λq=>aM (λz=>q (.inr z)),h3,by omega,h5,λq=>(h6 q).imp (λz=>by omega) id⟩
theorem decodeA(s:List UInt8):Fn 215 [.str s] (.tuple [.int .i32 ((dgo s).1:Int),.int .i64 ((dgo s).2:Int)]):=by
 intro H;refine .lib _ λg vs w k st=>?_;obtain⟨v,rfl,hv⟩:=relvs1 k;cases hv with|str _ hs=>?_
 refine(Tryz.utf8_DecodeRuneInString ⟨s.toArray⟩ w st.utf8).mono ?_;rintro e w' ⟨rfl,hb⟩;refine⟨_,rfl,.tuple _ _ rfl (λi c u hc hu=>?_),hb⟩
 match i,hc,hu with
 |0,hc,hu=>cases hc;cases hu;exact .int _ _
 |1,hc,hu=>cases hc;cases hu;exact .int _ _
theorem bcH(x:ItN):Fn 162 [x.av] (.bool (ajZ x)):=by
 intro H;obtain⟨hr1,hr0,hr2,hr3,hr4,hr5⟩:=biJ x.text;refine .of_body func162 rfl ntmps162 results162 rfl ?_;iterate 9 refine AX ?_
 refine .p rfl (zA U57 rfl Z3 (tm rfl)) ?_;iterate 10 refine AX ?_
 refine .cx rfl (λhc7=>?_) (λhc7=>?_)
 ·iterate 2 refine AX ?_
  refine .p rfl (zA U57 rfl Z9 (tm rfl)) ?_;refine AX ?_;refine .cl rfl call215 (evs1 rfl) (decodeA _ _) ?_;iterate 7 refine AX ?_
  refine .seqTo 2 (.bool (decide (0<baQ x.text∧baQ x.text=x.text.length))) [1,6] ?_ ?_
  ·iterate 2 refine AX ?_
   refine .p rfl (zA U57 rfl Z9 (tm rfl)) ?_;iterate 4 refine AX ?_
   refine zD (t:=20) rfl (λhg20=>?_) (λhg20=>?_)
   ·have hh20:=hg20;try simp only[aL]at hh20
    iterate 4 refine AX ?_
    refine zD (t:=24) rfl (λhg24=>?_) (λhg24=>?_)
    ·have hh24:=hg24;try simp only[aL]at hh24
     iterate 3 refine AX ?_
     refine zD (t:=27) rfl (λhg27=>?_) (λhg27=>?_)
     ·have hh27:=hg27;try simp only[aL]at hh27
      iterate 6 refine AX ?_
      exact⟨rfl,zS rfl (by(refine Eq.symm ?_;first|exact aU aA|exact aS (by first|omega|simp[*])|exact aQ.2 (by first|omega|simp[*]))) sX,rfl⟩
     have hh27:=hg27;try simp only[aL]at hh27
     iterate 6 refine AX ?_
     exact⟨rfl,zS rfl (by(refine Eq.symm ?_;first|exact aU aA|exact aS (by first|omega|simp[*])|exact aQ.2 aA)) sX,rfl⟩
    have hh24:=hg24;try simp only[aL]at hh24
    iterate 9 refine AX ?_
    exact⟨rfl,zS rfl (by(refine Eq.symm ?_;first|exact aU aA|exact aS aA|exact aQ.2 (by first|omega|simp[*]))) sX,rfl⟩
   have hh20:=hg20;try simp only[aL]at hh20
   iterate 13 refine AX ?_
   exact⟨rfl,zS rfl (by(refine Eq.symm ?_;first|exact aU aA|exact aS aA|exact aQ.2 (by first|omega|simp[*]))) sX,rfl⟩
  refine .sub [(2,_),(1,_),(6,_)] sX ?_;iterate 4 refine AX ?_
  refine⟨?_,rfl⟩;unfold ajZ;rw[aN hc7];rfl
 iterate 6 refine AX ?_
 refine .cx rfl (λhc32=>?_) (λhc32=>?_)
 ·refine .seqTo 2 (.bool (decide (x.text=[48]∨x.text=[35]∨x.text=[63]))) [1,6] ?_ ?_
  ·refine AX ?_;refine .p rfl (zA U57 rfl Z9 (tm rfl)) ?_;iterate 3 refine AX ?_
   refine zD (t:=37) rfl (λhg37=>?_) (λhg37=>?_)
   ·have hh37:=hg37;try simp only[aL]at hh37
    iterate 11 refine AX ?_
    exact⟨rfl,zS rfl (by(refine Eq.symm ?_;first|exact aU (by simp[*])|exact aS (by first|omega|simp[*])|exact aQ.2 (by first|omega|simp[*]))) sX,rfl⟩
   have hh37:=hg37;try simp only[aL]at hh37
   refine .gp rfl rfl rfl aB (zA U57 rfl Z9 (tm rfl)) ?_;iterate 4 refine AX ?_
   refine zD (t:=42) rfl (λhg42=>?_) (λhg42=>?_)
   ·have hh42:=hg42;try simp only[aL]at hh42
    iterate 6 refine AX ?_
    exact⟨rfl,zS rfl (by(refine Eq.symm ?_;first|exact aU (by simp[*])|exact aS (by first|omega|simp[*])|exact aQ.2 (by first|omega|simp[*]))) sX,rfl⟩
   have hh42:=hg42;try simp only[aL]at hh42
   refine .gp rfl rfl rfl aB (zA U57 rfl Z9 (tm rfl)) ?_;iterate 5 refine AX ?_
   exact⟨rfl,zS rfl (by(refine Eq.symm ?_;first|exact aU aA|exact aS aA|exact aQ.2 (by simp[*]))) sX,rfl⟩
  refine .sub [(2,_),(1,_),(6,_)] sX ?_;iterate 4 refine AX ?_
  refine⟨?_,rfl⟩;unfold ajZ;rw[aM hc7,aN hc32];rfl
 iterate 6 refine AX ?_
 refine .cx rfl (λhc47=>?_) (λhc47=>?_)
 ·refine .seqTo 2 (.bool (decide (x.text=[43]∨x.text=[45]))) [1] ?_ ?_
  ·refine AX ?_;refine .p rfl (zA U57 rfl Z9 (tm rfl)) ?_;iterate 3 refine AX ?_
   refine zD (t:=52) rfl (λhg52=>?_) (λhg52=>?_)
   ·have hh52:=hg52;try simp only[aL]at hh52
    iterate 6 refine AX ?_
    exact⟨rfl,zS rfl (by(refine Eq.symm ?_;first|exact aU (by simp[*])|exact aS (by first|omega|simp[*])|exact aQ.2 (by first|omega|simp[*]))) (zK rfl yF),rfl⟩
   have hh52:=hg52;try simp only[aL]at hh52
   refine .gp rfl rfl rfl aB (zA U57 rfl Z9 (tm rfl)) ?_;iterate 5 refine AX ?_
   exact⟨rfl,zS rfl (by(refine Eq.symm ?_;first|exact aU aA|exact aS aA|exact aQ.2 (by simp[*]))) (zK rfl yF),rfl⟩
  refine .sub [(2,_),(1,_)] sX ?_;iterate 4 refine AX ?_
  refine⟨?_,rfl⟩;unfold ajZ;rw[aM hc7,aM hc32,aN hc47];rfl
 iterate 3 refine AX ?_
 refine .seqTo 2 (.bool (decide (1≤x.kind∧x.kind≤9∧x.text=[]))) [] ?_ ?_
 ·refine AX ?_;refine .p rfl (zA U57 rfl Z3 (tm rfl)) ?_;iterate 3 refine AX ?_
  refine zD (t:=60) rfl (λhg60=>?_) (λhg60=>?_)
  ·have hh60:=hg60;try simp only[aL]at hh60
   refine .gp rfl rfl rfl aB (zA U57 rfl Z3 (tm rfl)) ?_;iterate 4 refine AX ?_
   refine zD (t:=65) rfl (λhg65=>?_) (λhg65=>?_)
   ·have hh65:=hg65;try simp only[aL]at hh65
    refine .gp rfl rfl rfl aB (zA U57 rfl Z9 (tm rfl)) ?_;iterate 5 refine AX ?_
    exact⟨rfl,zS rfl (by(refine Eq.symm ?_;first|exact aU aA|exact aS aA|exact aQ.2 (by simp[*]))) yF,rfl⟩
   have hh65:=hg65;try simp only[aL]at hh65
   iterate 6 refine AX ?_
   exact⟨rfl,zS rfl (by(refine Eq.symm ?_;first|exact aU aA|exact aS aA|exact aQ.2 (by first|omega|simp[*]))) yF,rfl⟩
  have hh60:=hg60;try simp only[aL]at hh60
  iterate 11 refine AX ?_
  exact⟨rfl,zS rfl (by(refine Eq.symm ?_;first|exact aU aA|exact aS aA|exact aQ.2 (by first|omega|simp[*]))) yF,rfl⟩
 refine .sub [(2,_)] (zK rfl yF) ?_;iterate 2 refine AX ?_
 refine⟨?_,rfl⟩;unfold ajZ;rw[aM hc7,aM hc32,aM hc47];rfl
theorem zr148:ZR 148 [.int .i64 0,.int .i64 0,.int .i64 0,.int .i64 0,.int .i64 0,.int .i64 0,.int .i64 0,.int .i64 0,.int .i64 0,.int .i64 0]:=ZRi zeroValue148
def bwL(l:List ItN):List AV:=[.int .i64 (qM l 0:Int),.int .i64 (qM l 1:Int),.int .i64 (qM l 2:Int),.int .i64 (qM l 3:Int),.int .i64 (qM l 4:Int),.int .i64 (qM l 5:Int),.int .i64 (qM l 6:Int),.int .i64 (qM l 7:Int),.int .i64 (qM l 8:Int),.int .i64 (qM l 9:Int)]
theorem buX{x:ItN}(h:ajZ x=true):1≤x.kind∧x.kind≤9:=by
 unfold ajZ at h;split at h
 ·omega
 split at h
 ·omega
 split at h
 ·omega
 have:=of_decide_eq_true h;omega
theorem awA(h:1≤k∧k≤9):k=1∨k=2∨k=3∨k=4∨k=5∨k=6∨k=7∨k=8∨k=9:=by omega
theorem ciV(h:1≤k∧k≤9):(bwL l)[0+k.toNat*1]?=some (.int .i64 (qM l k:Int)):=by
 rcases awA h with rfl|rfl|rfl|rfl|rfl|rfl|rfl|rfl|rfl<;>rfl
theorem bwK(l:List ItN)(x:ItN)(k:Int):qM (l++[x]) k=qM l k+(if x.kind=k then 1 else 0):=by
 unfold qM;rw[List.countP_append];by_cases h:x.kind=k<;>simp[h]
theorem ccK{x:ItN}(h:1≤x.kind∧x.kind≤9):putRow (bwL l) (0+x.kind.toNat*1) [.int .i64 ((qM l x.kind:Int)+1)]=bwL (l++[x]):=by
 unfold bwL;simp only[bwK];rcases awA h with e|e|e|e|e|e|e|e|e<;>rw[e]<;>rfl
theorem ccZ(h:(l.take i).all ajZ=true)(hi:i<l.length)(hx:ajZ l[i]=true):(l.take (i+1)).all ajZ=true:=by
 rw[←cI hi,List.all_append,h];simp[hx]
theorem cjA(hi:i<l.length)(hx:ajZ l[i]=false):l.all ajZ=false:=by
 rw[List.all_eq_false];exact⟨_,cF hi,by rw[hx];simp⟩
def ceJ(l:List ItN)(tl:Tail)(b2 b4:Nat)(H:Heap):Nat→Env→Heap→Prop:=λk env H1=>∃i:Nat,i≤l.length∧(l.take i).all ajZ=true∧env=[(2,.ptr (some ⟨b2,0,none⟩)),(4,.ptr (some ⟨b4,0,none⟩)),(8,itS l tl),(9,.int .i64 (l.length:Int)),(10,.int .i64 (i:Int))]∧H1=(H.set b2 (.box 148 (bwL []))).set b4 (.box 148 (bwL (l.take i)))∧k=l.length-i
theorem bnQ(s:SecN)(tl:Tail)(hl:s.items.length≤100000)(H:Heap):ACall prog 82 [.agg (s.cs tl)] H (λy H'=>∃m:List ItN,y= .tuple [.agg (bwL m),.bool (s.items.all ajZ)]∧(s.items.all ajZ=true→m=s.items)∧H'=H):=by
 obtain⟨l,gr,sc⟩:=s;have hl:l.length≤100000:=hl;refine ACall.of_body func82 rfl ntmps82 results82 rfl ?_;iterate 2 refine AX ?_
 refine .e rfl (acJ (tm rfl) (.inr ⟨_,rfl⟩)) ?_;refine .al zr148 (λb2 hb2=>?_);iterate 5 refine AX ?_
 refine .al zr148 (λb4 hb4=>?_);have hn2_4:=Heap.ne_of (oS _ _ _) hb4;iterate 5 refine AX ?_
 refine .p rfl (zA U52 rfl Z50 (tm rfl)) ?_;iterate 6 refine AX ?_
 refine AWP.loopW (ceJ l tl b2 b4 H) (l.length) ⟨0,Nat.zero_le _,rfl,rfl,rfl,rfl⟩ sX (hRa _) ?_;rintro _ _ _ ⟨i,hi,hall,rfl,rfl,rfl⟩;iterate 6 refine AX ?_
 refine AWP.cond (tm rfl) (λhc11=>?_) (λhc11=>?_)
 ·try simp only[aL]at hc11
  iterate 8 refine AX ?_
  refine .al zr57 (λb6 hb6=>?_);have hn2_6:=Heap.ne_of (oS _ _ _) hb6;have hn4_6:=Heap.ne_of (oS _ _ _) hb6;refine .e0 (zL Z57 (tm rfl) (tm rfl) rfl rfl (.inr ⟨_,rfl⟩) (oS _ _ _) (lB rfl)) ?_;try first|rw[sS]|rw[sU aB]
  iterate 2 refine AX ?_
  refine AWP.frz (t:=6) rfl (hb6) ?_;iterate 4 refine AX ?_
  refine .cl rfl call162 (evs1 rfl) (bcH _ _) ?_;iterate 3 refine AX ?_
  refine AWP.cond (tm rfl) (λhc16=>?_) (λhc16=>?_)
  ·try simp only[aL]at hc16
   iterate 2 refine AX ?_
   refine .e rfl (qA G148 Z148 (tm rfl) (oS _ _ _) (lB rfl)) (.e0 (zL Z148 (tm rfl) (tm rfl) rfl rfl (.inr ⟨_,rfl⟩) ((oN _ _ aB).trans (oS _ _ _)) (lB rfl)) ?_);try first|rw[sS]|rw[sU aB]
   iterate 3 refine AX ?_
   refine AWP.dropb (fS hb4 _) ?_;refine AWP.frz (t:=2) rfl (hb2) ?_;iterate 7 refine AX ?_
   refine Ret.go (.cons (.cellI _ _ _ _ rfl G148 Z148 rfl) (.cons (.tmp _ _ rfl) .nil)) _ (hRa _) ?_;have hna:=cjA (show i<l.length by omega) (by simpa using hc16);exact⟨l.take i,by rw[show(SecN.mk l gr sc).items.all ajZ=false from hna];rfl,(λh=>by cases h.symm.trans hna),rfl⟩
  try simp only[aL]at hc16
  have hok:ajZ l[((i:Nat):Int).toNat]=true:=by simpa using hc16
  have hkk:=buX hok;have hcb:=alA (l.take i) l[((i:Nat):Int).toNat].kind;rw[aV]at hcb;refine .skip ?_;refine Next.go ?_;refine .region (.p rfl (zA U57 rfl Z3 (tm rfl)) (.p rfl (zW G3 (tm rfl)) (.p rfl (qS U148 Z3 (tm rfl) (tm rfl) aA aA) (.e rfl (zM G3 (tm rfl) (oS _ _ _) (ciV hkk)) (.p rfl (yZ (tm rfl) zJ aA) (.p rfl (qS U148 Z3 (tm rfl) (tm rfl) aA aA) ?_))))));refine .e0 (zL Z3 (tm rfl) (tm rfl) rfl rfl (.inl rfl) (oS _ _ _) (by have:(bwL (l.take i)).length=10:=rfl;omega)) ?_;rw[sS];rw[show putRow (bwL (l.take i)) _ (AV.cells (.int .i64 ((qM (l.take i) l[((i:Nat):Int).toNat].kind:Int)+1)))=bwL (l.take i++[l[((i:Nat):Int).toNat]])from ccK hkk];iterate 8 refine AX ?_
  refine Round.mk (J:=ceJ l tl b2 b4 H) ⟨i+1,by omega,ccZ hall aA hok,rfl,by rw[←cI (show i<l.length by omega)];rfl,rfl⟩ sX (hRa _) aA
 try simp only[aL]at hc11
 iterate 7 refine AX ?_
 refine .e rfl (qA G148 Z148 (tm rfl) (oS _ _ _) (lB rfl)) (.e0 (zL Z148 (tm rfl) (tm rfl) rfl rfl (.inr ⟨_,rfl⟩) ((oN _ _ aB).trans (oS _ _ _)) (lB rfl)) ?_);try first|rw[sS]|rw[sU aB]
 iterate 3 refine AX ?_
 refine AWP.dropb (fS hb4 _) ?_;refine AWP.frz (t:=2) rfl (hb2) ?_;refine AX ?_;refine Ret.go (.cons (.cellI _ _ _ _ rfl G148 Z148 rfl) (.cons (.tmp _ _ rfl) .nil)) _ (hRa _) ?_;have hil:i=l.length:=by omega
 subst hil;rw[cX]at hall;exact⟨l,by rw[cX,show(SecN.mk l gr sc).items.all ajZ=true from hall];rfl,λ_=>rfl,rfl⟩
end
end Go.Proofs.YteedncdcbgplfaaGreatDoor
