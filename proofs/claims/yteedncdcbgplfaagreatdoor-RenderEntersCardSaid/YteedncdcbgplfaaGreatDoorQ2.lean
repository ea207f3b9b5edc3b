import Derived.Test.YteedncdcbgplfaaGreatDoorT2
import Derived.Test.YteedncdcbgplfaaGreatDoorQ1
set_option maxHeartbeats 1000000
namespace Go.Proofs.YteedncdcbgplfaaGreatDoor
open Go.Proofs.Tryz
open Go Go.RowKit
variable{i j n:Nat}{A B S:List AV}
section
set_option maxRecDepth 100000
def adM(f:Nat→List AV):List AV:=(List.range 801).flatMap f
def bhX(f:Nat→List AV)(i:Nat)(x:List AV):Nat→List AV:=λq=>if q=i then x else f q
def slotF:List AV:=[.int .u32 0,.int .i32 0,.int .u32 0,.int .u64 0,.int .u64 0,.int .i64 0,.bool false]
def aqL(k:Int):List AV:=[.int .u32 1,.int .i32 0,.int .u32 0,.int .u64 ((abN k/M1:Nat):Int),.int .u64 ((abN k%M1:Nat):Int),.int .i64 (atW k),.bool (bdL k)]
def ROK(f:Nat→List AV):Prop:=∀i,f i=slotF∨f i=aqL ((i:Int)-400)
theorem ROK.len{f:Nat→List AV}(h:ROK f)(i:Nat):(f i).length=7:=by
 rcases h i with e|e<;>rw[e]<;>rfl
theorem ayX{f:Nat→List AV}(h:∀i,(f i).length=7):∀n,((List.range n).flatMap f).length=7*n
 |0=>rfl
 |n+1=>by rw[List.range_succ,gG,aO,ayX h n];simp[h];omega
theorem ayW{f g:Nat→List AV}:∀l:List Nat,(∀q,q∈l→f q=g q)→l.flatMap f=l.flatMap g
 | [],_=>rfl
 |x::l,h=>by rw[dY,dY,h x aF,ayW l (λq hq=>h q (by simp[hq]))]
theorem avB{f:Nat→List AV}(h:∀i,(f i).length=7)(hi:i<801):∃A B:List AV,A.length=7*i∧adM f=A++(f i++B)∧∀x,adM (bhX f i x)=A++(x++B):=by
 have e:List.range 801=List.range i++(i::List.range' (i+1) (800-i)):=by
  rw[List.range_eq_range',List.range_eq_range',show(801:Nat)=i+(1+(800-i)) by omega,←List.range'_append_1,bZ,fG 1,List.range'_succ]
 refine⟨(List.range i).flatMap f,(List.range' (i+1) (800-i)).flatMap f,ayX h i,?_,λx=>?_⟩
 ·unfold adM;rw[e,gG,dY]
 unfold adM;rw[e,gG,dY];have e1:(List.range i).flatMap (bhX f i x)=(List.range i).flatMap f:=ayW _ (λq hq=>by
   have:=gA.1 hq;unfold bhX;rw[aJ])
 have e2:(List.range' (i+1) (800-i)).flatMap (bhX f i x)=(List.range' (i+1) (800-i)).flatMap f:=ayW _ (λq hq=>by
   have:=(List.mem_range'_1.1 hq).1;unfold bhX;rw[aJ])
 rw[e1,e2];unfold bhX;rw[aN rfl]
theorem asL(hA:A.length=n)(hj:j<S.length):(A++(S++B))[n+j]?=S[j]?:=by
 rw[cY aA,hA,Nat.add_sub_cancel_left,cV hj]
theorem axG(hA:A.length=n)(hj:j<S.length)(x:AV):(A++(S++B)).set (n+j) x=A++(S.set j x++B):=by
 rw[List.set_append_right _ _ aA,hA,Nat.add_sub_cancel_left,List.set_append_left _ _ hj]
theorem cgO{xs:List AV}(hA:A.length=n)(hj:j+xs.length≤S.length):putRow (A++(S++B)) (n+j) xs=A++(putRow S j xs++B):=by
 unfold putRow;subst hA;rw[gX,fF];simp only[Nat.add_sub_cancel_left,fA];rw[aY aA,gK aA,dU aA,eI aA];simp
theorem byA{m:Nat}(hA:A.length=n)(hj:j+m≤S.length):((A++(S++B)).drop (n+j)).take m=(S.drop j).take m:=by
 subst hA;rw[fF,Nat.add_sub_cancel_left,gK aA,cH,eI aA,dU (by rw[bO];omega)]
theorem btP(k:Int)(hk: -400≤k∧k≤400)(b o:Nat)(cs:List AV)(H:Heap)(hb:H.objs b=some (.box 227 cs))(ho:o+7≤cs.length):ACall prog 300 [.iptr [.int .i64 k],.iptr [.ptr (some ⟨b,o,none⟩)]] H (λy H'=>y= .tuple []∧H'=H.set b (.box 227 (putRow cs (o+3) (anX k).cells))):=by
 refine ACall.of_body func300 rfl ntmps300 results300 rfl ?_;refine AWP.draw [(0,true),(1,true),(2,false),(3,true),(4,true),(5,false)] rfl aE ?_;first|(refine APlan.p rfl rfl (zW G355 (.tmp _ _ rfl)) ?_)|(refine APlan.f rfl rfl (λ_=>zM G355 (.tmp _ _ rfl) (by first|assumption|exact(by assumption:Heap.le _ _).objs _ _ aB|exact oS _ _ _|exact(oN _ _ aB).trans (oS _ _ _)|exact(oN _ _ aB).trans ((oN _ _ aB).trans (oS _ _ _))|exact(oN _ _ aB).trans aB) rfl) ?_)
 first|(refine APlan.p rfl rfl (zW G3 (.tmp _ _ rfl)) ?_)|(refine APlan.f rfl rfl (λ_=>zM G3 (.tmp _ _ rfl) (by first|assumption|exact(by assumption:Heap.le _ _).objs _ _ aB|exact oS _ _ _|exact(oN _ _ aB).trans (oS _ _ _)|exact(oN _ _ aB).trans ((oN _ _ aB).trans (oS _ _ _))|exact(oN _ _ aB).trans aB) rfl) ?_)
 refine APlan.s rfl rfl (zB call301 (.cons (.tmp _ _ rfl) .nil) (bnR k hk _)) ?_;rintro _ _ ⟨rfl,hH⟩;obtain rfl:=hH.symm;first|(refine APlan.p rfl rfl (acK (.tmp _ _ rfl)) ?_)|(refine APlan.p rfl rfl (abG (.tmp _ _ rfl)) ?_)|(refine APlan.p rfl rfl (adX (.tmp _ _ rfl)) ?_)
 first|(refine APlan.p rfl rfl (zA U224 rfl Z222 (.tmp _ _ rfl)) ?_)|(refine APlan.p rfl rfl (zC U224 rfl Z222 (.tmp _ _ rfl)) ?_)
 refine APlan.s0 rfl (zL Z222 (.tmp _ _ rfl) (.tmp _ _ rfl) rfl rfl (.inr ⟨_,rfl⟩) hb (by show _+3+4≤_;omega)) ?_;rintro _ _ ⟨rfl,hH⟩;obtain rfl:=hH.symm;refine APlan.nil ?_
 
 refine Ret.go' .nil _ (hRa _) ?_;exact⟨rfl,rfl⟩
theorem cgT(f:Nat→List AV)(hf:ROK f)(k:Int)(hk: -400≤k∧k≤400)(i:Nat)(hi:(i:Int)=k+400)(b:Nat)(H:Heap)(hb:H.objs b=some (.box 227 (adM f))):
  ACall prog 299 [.ptr (some ⟨b,7*i,none⟩),.func 300 [.iptr [.int .i64 k],.iptr [.ptr (some ⟨b,7*i,none⟩)]]] H (λy H'=>y= .tuple []∧H'=H.set b (.box 227 (adM (bhX f i (aqL k))))):=by
 obtain⟨A,B,hA,e1,e2⟩:=avB hf.len (show i<801 by omega);rcases hf i with h|h
 ·rw[e1,h]at hb;have hd:(A++(slotF++B)).set (7*i+1) (.int .i32 1)=A++(slotF.set 1 (.int .i32 1)++B):=axG hA (lB rfl) _;have hc:=btP k hk b (7*i) (A++(slotF.set 1 (.int .i32 1)++B)) (H.set b (.box 227 (A++(slotF.set 1 (.int .i32 1)++B)))) (oS _ _ _) (by simp[slotF];omega);rw[cgO hA (lB rfl),sS]at hc;have h1:=bnJ (b:=b) (o:=7*i) (cs:=A++(slotF++B)) (ds:=A++(putRow (slotF.set 1 (.int .i32 1)) 3 (anX k).cells++B)) 300 [.iptr [.int .i64 k],.iptr [.ptr (some ⟨b,7*i,none⟩)]] call300 H hb
   (by have:=asL (A:=A) (S:=slotF) (B:=B) (j:=0) hA (lB rfl);rwa[cA]at this) (asL (A:=A) (S:=slotF) (B:=B) (j:=1) hA (lB rfl))
   (by have:=asL (A:=A) (S:=putRow (slotF.set 1 (.int .i32 1)) 3 (anX k).cells) (B:=B) (j:=0) hA (lB rfl);rwa[cA]at this) (asL (A:=A) (S:=putRow (slotF.set 1 (.int .i32 1)) 3 (anX k).cells) (B:=B) (j:=1) hA (lB rfl)) (by rw[hd];exact hc)
  have e3:(((A++(putRow (slotF.set 1 (.int .i32 1)) 3 (anX k).cells++B)).set (7*i) (.int .u32 1)).set (7*i+1) (.int .i32 0))=adM (bhX f i (aqL k)):=by
   rw[e2];have q:=axG (A:=A) (S:=putRow (slotF.set 1 (.int .i32 1)) 3 (anX k).cells) (B:=B) (j:=0) hA (lB rfl) (.int .u32 1);rw[cA]at q;rw[q,axG hA (lB rfl)];rfl
  rw[e3]at h1;exact h1
 have hk2:aqL ((i:Int)-400)=aqL k:=by rw[show(i:Int)-400=k by omega]
 rw[hk2]at h;have e3:adM (bhX f i (aqL k))=adM f:=by rw[e2,e1,h]
 rw[e3];have h1:=btI (b:=b) (o:=7*i) 300 [.iptr [.int .i64 k],.iptr [.ptr (some ⟨b,7*i,none⟩)]] H hb (by rw[e1,h];have:=asL (A:=A) (S:=aqL k) (B:=B) (j:=0) hA (lB rfl);rwa[cA]at this);refine h1.mono ?_;rintro y H' ⟨rfl,rfl⟩;exact⟨rfl,(Heap.set_self hb).symm⟩
theorem cgV{f:Nat→List AV}{k:Int}(hf:ROK f)(hi:i<801):((adM (bhX f i (aqL k))).drop (7*i+3)).take 4=(anX k).cells:=by
 obtain⟨A,B,hA,e1,e2⟩:=avB hf.len hi;rw[e2,byA hA (by show 3+4≤7;decide)];rfl
theorem biL{f:Nat→List AV}(h:∀i,(f i).length=7):(adM f).length=5607:=ayX h 801
theorem ROK.upd{f:Nat→List AV}(h:ROK f){k:Int}(hi:(i:Int)=k+400):ROK (bhX f i (aqL k)):=λq=>by
 unfold bhX;split
 ·rename_i e;subst e;right;rw[show(q:Int)-400=k by omega]
 exact h q
theorem zr355:ZR 355 [.ptr none]:=ZRi zeroValue355
theorem caB(f:Nat→List AV)(hf:ROK f)(k:Int)(hk: -400≤k∧k≤400)(b:Nat)(H:Heap)(hb:H.objs b=some (.box 227 (adM f))):ACall prog 268 [.ptr (some ⟨b,0,none⟩),.int .i64 k] H (λy H'=>y=anX k∧∃f',ROK f'∧H'=H.set b (.box 227 (adM f'))):=by
 have hlen:=biL hf.len;obtain⟨i,hi⟩:∃i:Nat,(i:Int)=k+400:=⟨(k+400).toNat,by omega⟩;have hi801:i<801:=by omega
 refine .of_body func268 rfl ntmps268 results268 rfl ?_;refine AX ?_;refine AX ?_;refine .s rfl (acJ (.tmp _ _ rfl) (.inl rfl)) ?_;rintro _ _ ⟨rfl,hH⟩;obtain rfl:=hH.symm;refine .s rfl (adL zr222) ?_;rintro _ _ ⟨b4,hb4,rfl,hH⟩;obtain rfl:=hH.symm;refine .nil ?_;iterate 2 refine AX ?_
 have hnb:b≠b4:=by intro q;rw[q,hb4]at hb;cases hb
 have hbq:=(oN H (.box 222 [.int .u64 0,.int .u64 0,.int .i64 0,.bool false]) hnb).trans hb;refine .draw [(0,true),(1,true),(2,true),(3,true),(4,true),(5,true),(6,false),(7,false)] rfl aE ?_;refine .p rfl rfl (zG (.tmp _ _ rfl)) ?_;first|(refine .p rfl rfl (zW G3 (.tmp _ _ rfl)) ?_)|(refine .f rfl rfl (λ_=>zM G3 (.tmp _ _ rfl) (by first|assumption|exact(by assumption:Heap.le _ _).objs _ _ aB|exact oS _ _ _|exact(oN _ _ aB).trans (oS _ _ _)|exact(oN _ _ aB).trans ((oN _ _ aB).trans (oS _ _ _))|exact(oN _ _ aB).trans aB) rfl) ?_)
 refine .p rfl rfl (yZ zJ (.tmp _ _ rfl) aA) ?_;first|(refine .p rfl rfl (acK (.tmp _ _ rfl)) ?_)|(refine .p rfl rfl (abG (.tmp _ _ rfl)) ?_)|(refine .p rfl rfl (adX (.tmp _ _ rfl)) ?_)
 first|(refine .p rfl rfl (zA U227 rfl Z225 (.tmp _ _ rfl)) ?_)|(refine .p rfl rfl (zC U227 rfl Z225 (.tmp _ _ rfl)) ?_)
 refine .p rfl rfl (.as (b:=.ptr (some ⟨b,7*i,none⟩)) (by show AV.ptr (some ⟨b,0+0+(400+k).toNat*7,none⟩)=_;rw[show 0+0+(400+k).toNat*7=7*i by omega]) (qS underlying225 sizeOf224 (.tmp _ _ rfl) (.tmp _ _ rfl) aA aA)) ?_;refine .s rfl rfl (adL zr355) ?_;rintro _ _ ⟨b5,hb5,rfl,hH⟩;obtain rfl:=hH.symm;have hn4_5:=Heap.ne_of (by first|assumption|exact(by assumption:Heap.le _ _).objs _ _ aB|exact oS _ _ _|exact(oN _ _ aB).trans (oS _ _ _)|exact(oN _ _ aB).trans ((oN _ _ aB).trans (oS _ _ _))|exact(oN _ _ aB).trans aB) hb5;refine .s0 rfl (zL sizeOf355 (.tmp _ _ rfl) (.tmp _ _ rfl) rfl rfl (.inl rfl) (by first|assumption|exact(by assumption:Heap.le _ _).objs _ _ aB|exact oS _ _ _|exact(oN _ _ aB).trans (oS _ _ _)|exact(oN _ _ aB).trans ((oN _ _ aB).trans (oS _ _ _))|exact(oN _ _ aB).trans aB) (lB rfl)) ?_;rintro _ _ ⟨rfl,hH⟩;obtain rfl:=hH.symm;try first|rw[sS]|rw[sU aB]
 refine .nil ?_;refine AX ?_;refine .frz (t:=5) rfl (by first|exact hb5|exact fS hb5 _) ?_;refine AX ?_;refine AX ?_;first|(refine .p rfl (zW G355 (.tmp _ _ rfl)) ?_)|(refine .s rfl (zM G355 (.tmp _ _ rfl) (by first|assumption|exact(by assumption:Heap.le _ _).objs _ _ aB|exact oS _ _ _|exact(oN _ _ aB).trans (oS _ _ _)|exact(oN _ _ aB).trans ((oN _ _ aB).trans (oS _ _ _))|exact(oN _ _ aB).trans aB) rfl) ?_;rintro _ _ ⟨rfl,hH⟩;obtain rfl:=hH.symm)
 first|(refine .p rfl (acK (.tmp _ _ rfl)) ?_)|(refine .p rfl (abG (.tmp _ _ rfl)) ?_)|(refine .p rfl (adX (.tmp _ _ rfl)) ?_)
 first|(refine .p rfl (zA U224 rfl sizeOf218 (.tmp _ _ rfl)) ?_)|(refine .p rfl (zC U224 rfl sizeOf218 (.tmp _ _ rfl)) ?_)
 refine .p rfl (avL (.tmp _ _ rfl) (.tmp _ _ rfl)) ?_;refine .s rfl (zB call299 (.cons (.tmp _ _ rfl) (.cons (.tmp _ _ rfl) .nil)) (cgT f hf k hk i hi b _ (by first|assumption|exact(oN _ _ aB).trans hb))) ?_;rintro _ _ ⟨rfl,hH⟩;obtain rfl:=hH.symm;refine .nil ?_;iterate 2 refine AX ?_
 have hnb2:=hnb.symm;rw[Heap.set_comm hnb2];have hb4:=(oN H (.box 227 (adM (bhX f i (aqL k)))) hnb2).trans hb4;refine AX ?_;first|(refine .p rfl (zW G355 (.tmp _ _ rfl)) ?_)|(refine .s rfl (zM G355 (.tmp _ _ rfl) (by first|assumption|exact(by assumption:Heap.le _ _).objs _ _ aB|exact oS _ _ _|exact(oN _ _ aB).trans (oS _ _ _)|exact(oN _ _ aB).trans ((oN _ _ aB).trans (oS _ _ _))|exact(oN _ _ aB).trans aB) rfl) ?_;rintro _ _ ⟨rfl,hH⟩;obtain rfl:=hH.symm)
 first|(refine .p rfl (acK (.tmp _ _ rfl)) ?_)|(refine .p rfl (abG (.tmp _ _ rfl)) ?_)|(refine .p rfl (adX (.tmp _ _ rfl)) ?_)
 first|(refine .p rfl (zA U224 rfl Z222 (.tmp _ _ rfl)) ?_)|(refine .p rfl (zC U224 rfl Z222 (.tmp _ _ rfl)) ?_)
 refine .s rfl (AStep.mono (R':=λy H'=>y=anX k∧H'=_) (qA isAgg222 Z222 (.tmp _ _ rfl) (by first|assumption|exact(by assumption:Heap.le _ _).objs _ _ aB|exact oS _ _ _|exact(oN _ _ aB).trans (oS _ _ _)|exact(oN _ _ aB).trans ((oN _ _ aB).trans (oS _ _ _))|exact(oN _ _ aB).trans aB) (by show 7*i+3+4≤_;rw[biL (hf.upd hi).len];omega)) (λx H' h=>⟨h.1.trans (congrArg AV.agg (cgV (k:=k) hf hi801)),h.2⟩)) ?_;rintro _ _ ⟨rfl,hH⟩;obtain rfl:=hH.symm;refine .s0 (zL Z222 (.tmp _ _ rfl) (.tmp _ _ rfl) rfl rfl (.inr ⟨_,rfl⟩) (by first|assumption|exact(by assumption:Heap.le _ _).objs _ _ aB|exact oS _ _ _|exact(oN _ _ aB).trans (oS _ _ _)|exact(oN _ _ aB).trans ((oN _ _ aB).trans (oS _ _ _))|exact(oN _ _ aB).trans aB) (lB rfl)) ?_;rintro _ _ ⟨rfl,hH⟩;obtain rfl:=hH.symm;try first|rw[sS]|rw[sU aB]
 refine .nil ?_;refine AX ?_;refine .frz (t:=4) rfl (by first|exact hb4|exact fS hb4 _) ?_;refine AX ?_
 
 refine AX ?_;refine⟨?_,bhX f i (aqL k),hf.upd hi,?_⟩
 ·rfl
 rfl
end
section
open Go Go.RowKit
set_option maxRecDepth 100000
theorem cgE{m a K:Nat}(hm:m<2^a)(h:a+K≤8191):m*2^K<BIG:=by
 obtain⟨Q,hQ,hB⟩:∃K,K=8192∧BIG=2^K:=⟨32*256,rfl,atP _ rfl⟩;rw[hB];refine bQ (dE hm (bL aC)) ?_;rw[←bI];exact bB aC aA
theorem caX(r:Nat):decide ((0:Int)<((zF r).length:Int))=decide (r≠0):=by
 refine aQ.2 ⟨λh q=>?_,λh=>?_⟩
 ·subst q;rw[aaU]at h;simp at h
 rw[qV (eL h)];simp only[aW];omega
theorem caE{ds:List UInt8}(hd:Digs ds)(hl:ds.length≤1100):yN (num ds)≤3669∧num ds<BIG:=by
 have h1:=ahK hd;have h2:=(aeV (j:=ds.length) (n:=0) aA aC).2.1;refine⟨?_,eG h1 h2⟩;have h3:=ahV (dK h1);have h4:=akS ds.length;omega
theorem cgX{ds:List UInt8}(hd:Digs ds)(h:ds.length+j≤400):num ds*10^j<BIG∧10^j<BIG:=by
 have h1:=ahK hd;refine⟨bA ?_ (aeV (j:=ds.length+j) (n:=0) aA aC).2.1,(aeV (j:=j) (n:=0) aA aC).2.1⟩;rw[bI];exact bD _ (dK h1)
theorem brG(m:Nat)(e:Int):anA 0 ((yN (10^(-e).toNat):Int)-(yN m:Int)+66)=((axC m e:Nat):Int):=by
 unfold axC;simp only[anA];split<;>omega
theorem auQ(neg:Bool)(ds:List UInt8)(e:Int)(hr:yE ds e=true)(hne:ds≠[])(hp: -330≤ds.length+e∧ds.length+e≤310):Fn 235 [dA neg ds e] (.int .u64 ((axB (num ds) e:Nat):Int)):=by
 intro H;have hd:=qC hr;have hrl:=yX hr;have hlp:=bV.2 hne;obtain⟨hmb,hmB⟩:=caE hd hrl.1;refine .of_body func235 rfl ntmps235 results235 rfl ?_;iterate 8 refine AM ?_
 refine .p rfl (zA U61 rfl Z9 (tm rfl)) ?_;refine AX ?_;refine .cl rfl call105 (evs1 rfl) (atH ds hne hd aA _) ?_;iterate 10 refine AX ?_
 refine .p rfl (zA U61 rfl Z3 (tm rfl)) ?_;iterate 4 refine AX ?_
 refine .cx rfl (λhc21=>?_) (λhc21=>?_)
 ·have hq:=cgX hd (j:=e.toNat) aA;iterate 2 refine AX ?_
  refine .p rfl (zA U61 rfl Z3 (tm rfl)) ?_;refine AX ?_;refine .cl rfl C170 (.cons zJ (evs1 rfl)) (pow10Z e.toNat e aA aA _) ?_;iterate 11 refine AX ?_
  refine .cl rfl C106 (evs2 rfl rfl) (mulB _ _ hmB hq.2 hq.1 _) ?_;iterate 9 refine AX ?_
  refine .cl rfl call273 (.cons zT (.cons (tm rfl) (.cons zJ (.cons zT .nil)))) (roundB _ hq.1 0 aC false _) ?_;iterate 6 refine AX ?_
  refine⟨?_,rfl⟩;unfold axB;rw[aK];rfl
 have htB:=(aeV (j:=(-e).toNat) (n:=0) aA aC).2.1;have htb:=akS (-e).toNat;have hkd:axC (num ds) e=yN (10^(-e).toNat)+66-yN (num ds):=rfl;have hsB:=cgE (m:=(num ds)) (a:=yN (num ds)) (K:=axC (num ds) e) (afA _) aA;iterate 4 refine AX ?_
 refine .p rfl (zA U61 rfl Z3 (tm rfl)) ?_;iterate 2 refine AX ?_
 refine .cl rfl C170 (.cons zJ (evs1 rfl)) (pow10Z (-e).toNat (-e) aA aA _) ?_;iterate 10 refine AX ?_
 refine .cl rfl C241 (evs1 rfl) (lenB _ htB _) ?_;refine AX ?_;refine .cl rfl C241 (evs1 rfl) (lenB _ hmB _) ?_;iterate 7 refine AX ?_
 rw[brG];iterate 3 refine AX ?_
 refine .cl rfl C168 (evs2 rfl rfl) (shlQ _ (axC (num ds) e) _ rfl hsB aA _) ?_;iterate 10 refine AX ?_
 refine .cl rfl call274 (evs2 rfl rfl) (apH _ _ hsB (acG _) htB _) ?_;iterate 17 refine AX ?_
 refine .cl rfl call273 (.cons zT (evs3 rfl rfl rfl)) (roundB _ (bA (dP _ _) hsB) _ (by constructor<;>omega) _ _) ?_;iterate 5 refine AX ?_
 refine⟨?_,rfl⟩;rw[caX];unfold axB bbE;rw[aJ];rfl
end
end Go.Proofs.YteedncdcbgplfaaGreatDoor
