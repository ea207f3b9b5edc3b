import Derived.Test.YtmmgbnolccpjoaaGreatDoorQ2
import Derived.Test.YtmmgbnolccpjoaaGreatDoorT1
set_option maxHeartbeats 1000000
namespace Go.Proofs.YtmmgbnolccpjoaaGreatDoor
open Go.Proofs.Tryz
open Go Go.RowKit
variable{A B S:List AV}{j m n w:Nat}{k:Int}
section
set_option maxRecDepth 100000
def aaR(f:Nat→List AV):List AV:=(List.range 801).flatMap f
def blN(f:Nat→List AV)(i:Nat)(x:List AV):Nat→List AV:=λq=>if q=i then x else f q
def slotF:List AV:=[.int .u32 0,.int .i32 0,.int .u32 0,.int .u64 0,.int .u64 0,.int .i64 0,.bool false]
def asT(k:Int):List AV:=[.int .u32 1,.int .i32 0,.int .u32 0,.int .u64 ((ajQ k/M1:Nat):Int),.int .u64 ((ajQ k%M1:Nat):Int),.int .i64 (awM k),.bool (bgY k)]
def ROK(f:Nat→List AV):Prop:=∀i,f i=slotF∨f i=asT ((i:Int)-400)
theorem ROK.len{f:Nat→List AV}(h:ROK f)(i:Nat):(f i).length=7:=by
 rcases h i with e|e<;>rw[e]<;>rfl
theorem bbL{f:Nat→List AV}(h:∀i,(f i).length=7):∀n,((List.range n).flatMap f).length=7*n
 |0=>rfl
 |n+1=>by rw[List.range_succ,List.flatMap_append,aP,bbL h n];simp[h];omega
theorem bbK{f g:Nat→List AV}:∀l:List Nat,(∀q,q∈l→f q=g q)→l.flatMap f=l.flatMap g
 | [],_=>rfl
 |x::l,h=>by rw[fH,fH,h x aF,bbK l (λq hq=>h q (by simp[hq]))]
theorem axO{f:Nat→List AV}(h:∀i,(f i).length=7){i:Nat}(hi:i<801):∃A B:List AV,A.length=7*i∧aaR f=A++(f i++B)∧∀x,aaR (blN f i x)=A++(x++B):=by
 have e:List.range 801=List.range i++(i::List.range' (i+1) (800-i)):=by
  rw[List.range_eq_range',List.range_eq_range',show(801:Nat)=i+(1+(800-i)) by omega,←List.range'_append_1,bZ,dS 1,List.range'_succ]
 refine⟨(List.range i).flatMap f,(List.range' (i+1) (800-i)).flatMap f,bbL h i,?_,λx=>?_⟩
 ·unfold aaR;rw[e,List.flatMap_append,fH]
 unfold aaR;rw[e,List.flatMap_append,fH];have e1:(List.range i).flatMap (blN f i x)=(List.range i).flatMap f:=bbK _ (λq hq=>by
   have:=List.mem_range.1 hq;unfold blN;rw[aI])
 have e2:(List.range' (i+1) (800-i)).flatMap (blN f i x)=(List.range' (i+1) (800-i)).flatMap f:=bbK _ (λq hq=>by
   have:=(List.mem_range'_1.1 hq).1;unfold blN;rw[aI])
 rw[e1,e2];unfold blN;rw[aN rfl]
theorem auW(hA:A.length=n)(hj:j<S.length):(A++(S++B))[n+j]?=S[j]?:=by
 rw[fE aA,hA,fR,gB hj]
theorem bhW(hA:A.length=n)(hj:j<S.length)(x:AV):(A++(S++B)).set (n+j) x=A++(S.set j x++B):=by
 rw[List.set_append_right _ _ aA,hA,fR,List.set_append_left _ _ hj]
theorem ciK{xs:List AV}(hA:A.length=n)(hj:j+xs.length≤S.length):putRow (A++(S++B)) (n+j) xs=A++(putRow S j xs++B):=by
 unfold putRow;subst hA;rw[List.take_append,List.drop_append];simp only[fR,eG];rw[bA aA,fV aA,dZ aA,List.drop_append_of_le_length aA];simp
theorem caX(hA:A.length=n)(hj:j+m≤S.length):((A++(S++B)).drop (n+j)).take m=(S.drop j).take m:=by
 subst hA;rw[List.drop_append,fR,fV aA,cJ,List.drop_append_of_le_length aA,dZ (by rw[bD];omega)]
theorem bwQ(k:Int)(hk: -400≤k∧k≤400)(b o:Nat)(cs:List AV)(H:Heap)(hb:H.objs b=some (.box 189 cs))(ho:o+7≤cs.length):ACall prog 307 [.iptr [.int .i64 k],.iptr [.ptr (some ⟨b,o,none⟩)]] H (λy H'=>y= .tuple []∧H'=H.set b (.box 189 (putRow cs (o+3) (apL k).cells))):=by
 refine ACall.of_body func307 rfl ntmps307 results307 rfl ?_;refine AWP.draw [(0,true),(1,true),(2,false),(3,true),(4,true),(5,false)] rfl aE ?_;first|(refine APlan.p rfl rfl (qH G302 (.tmp _ _ rfl)) ?_)|(refine APlan.f rfl rfl (λ_=>yC G302 (.tmp _ _ rfl) (by first|assumption|exact(by assumption:Heap.le _ _).objs _ _ aB|exact oS _ _ _|exact(oN _ _ aB).trans (oS _ _ _)|exact(oN _ _ aB).trans ((oN _ _ aB).trans (oS _ _ _))|exact(oN _ _ aB).trans aB) rfl) ?_)
 first|(refine APlan.p rfl rfl (qH G3 (.tmp _ _ rfl)) ?_)|(refine APlan.f rfl rfl (λ_=>yC G3 (.tmp _ _ rfl) (by first|assumption|exact(by assumption:Heap.le _ _).objs _ _ aB|exact oS _ _ _|exact(oN _ _ aB).trans (oS _ _ _)|exact(oN _ _ aB).trans ((oN _ _ aB).trans (oS _ _ _))|exact(oN _ _ aB).trans aB) rfl) ?_)
 refine APlan.s rfl rfl (zB call308 (.cons (.tmp _ _ rfl) .nil) (brL k hk _)) ?_;rintro _ _ ⟨rfl,hH⟩;obtain rfl:=hH.symm;first|(refine APlan.p rfl rfl (abY (.tmp _ _ rfl)) ?_)|(refine APlan.p rfl rfl (aaK (.tmp _ _ rfl)) ?_)|(refine APlan.p rfl rfl (aeV (.tmp _ _ rfl)) ?_)
 first|(refine APlan.p rfl rfl (zA U186 rfl Z184 (.tmp _ _ rfl)) ?_)|(refine APlan.p rfl rfl (zD U186 rfl Z184 (.tmp _ _ rfl)) ?_)
 refine APlan.s0 rfl (zN Z184 (.tmp _ _ rfl) (.tmp _ _ rfl) rfl rfl (.inr ⟨_,rfl⟩) hb (by show _+3+4≤_;omega)) ?_;rintro _ _ ⟨rfl,hH⟩;obtain rfl:=hH.symm;refine APlan.nil ?_
 
 refine Ret.go' .nil _ (hRa _) ?_;exact⟨rfl,rfl⟩
theorem ciT(f:Nat→List AV)(hf:ROK f)(k:Int)(hk: -400≤k∧k≤400)(i:Nat)(hi:(i:Int)=k+400)(b:Nat)(H:Heap)(hb:H.objs b=some (.box 189 (aaR f))):
  ACall prog 306 [.ptr (some ⟨b,7*i,none⟩),.func 307 [.iptr [.int .i64 k],.iptr [.ptr (some ⟨b,7*i,none⟩)]]] H (λy H'=>y= .tuple []∧H'=H.set b (.box 189 (aaR (blN f i (asT k))))):=by
 obtain⟨A,B,hA,e1,e2⟩:=axO hf.len (show i<801 by omega);rcases hf i with h|h
 ·rw[e1,h]at hb;have hd:(A++(slotF++B)).set (7*i+1) (.int .i32 1)=A++(slotF.set 1 (.int .i32 1)++B):=bhW hA (lB rfl) _;have hc:=bwQ k hk b (7*i) (A++(slotF.set 1 (.int .i32 1)++B)) (H.set b (.box 189 (A++(slotF.set 1 (.int .i32 1)++B)))) (oS _ _ _) (by simp[slotF];omega);rw[ciK hA (lB rfl),sS]at hc;have h1:=brC (b:=b) (o:=7*i) (cs:=A++(slotF++B)) (ds:=A++(putRow (slotF.set 1 (.int .i32 1)) 3 (apL k).cells++B)) 307 [.iptr [.int .i64 k],.iptr [.ptr (some ⟨b,7*i,none⟩)]] call307 H hb
   (by have:=auW (A:=A) (S:=slotF) (B:=B) (j:=0) hA (lB rfl);rwa[cB]at this) (auW (A:=A) (S:=slotF) (B:=B) (j:=1) hA (lB rfl))
   (by have:=auW (A:=A) (S:=putRow (slotF.set 1 (.int .i32 1)) 3 (apL k).cells) (B:=B) (j:=0) hA (lB rfl);rwa[cB]at this) (auW (A:=A) (S:=putRow (slotF.set 1 (.int .i32 1)) 3 (apL k).cells) (B:=B) (j:=1) hA (lB rfl)) (by rw[hd];exact hc)
  have e3:(((A++(putRow (slotF.set 1 (.int .i32 1)) 3 (apL k).cells++B)).set (7*i) (.int .u32 1)).set (7*i+1) (.int .i32 0))=aaR (blN f i (asT k)):=by
   rw[e2];have q:=bhW (A:=A) (S:=putRow (slotF.set 1 (.int .i32 1)) 3 (apL k).cells) (B:=B) (j:=0) hA (lB rfl) (.int .u32 1);rw[cB]at q;rw[q,bhW hA (lB rfl)];rfl
  rw[e3]at h1;exact h1
 have hk2:asT ((i:Int)-400)=asT k:=by rw[show(i:Int)-400=k by omega]
 rw[hk2]at h;have e3:aaR (blN f i (asT k))=aaR f:=by rw[e2,e1,h]
 rw[e3];have h1:=bwM (b:=b) (o:=7*i) 307 [.iptr [.int .i64 k],.iptr [.ptr (some ⟨b,7*i,none⟩)]] H hb (by rw[e1,h];have:=auW (A:=A) (S:=asT k) (B:=B) (j:=0) hA (lB rfl);rwa[cB]at this);refine h1.mono ?_;rintro y H' ⟨rfl,rfl⟩;exact⟨rfl,(Heap.set_self hb).symm⟩
theorem ciU{f:Nat→List AV}{i:Nat}(hf:ROK f)(hi:i<801):((aaR (blN f i (asT k))).drop (7*i+3)).take 4=(apL k).cells:=by
 obtain⟨A,B,hA,e1,e2⟩:=axO hf.len hi;rw[e2,caX hA (by show 3+4≤7;decide)];rfl
theorem bmE{f:Nat→List AV}(h:∀i,(f i).length=7):(aaR f).length=5607:=bbL h 801
theorem ROK.upd{f:Nat→List AV}(h:ROK f){i:Nat}(hi:(i:Int)=k+400):ROK (blN f i (asT k)):=λq=>by
 unfold blN;split
 ·rename_i e;subst e;right;rw[show(q:Int)-400=k by omega]
 exact h q
theorem zr302:ZR 302 [.ptr none]:=ZRi zeroValue302
theorem ccN(f:Nat→List AV)(hf:ROK f)(k:Int)(hk: -400≤k∧k≤400)(b:Nat)(H:Heap)(hb:H.objs b=some (.box 189 (aaR f))):ACall prog 264 [.ptr (some ⟨b,0,none⟩),.int .i64 k] H (λy H'=>y=apL k∧∃f',ROK f'∧H'=H.set b (.box 189 (aaR f'))):=by
 have hlen:=bmE hf.len;obtain⟨i,hi⟩:∃i:Nat,(i:Int)=k+400:=⟨(k+400).toNat,by omega⟩;have hi801:i<801:=by omega
 refine .of_body func264 rfl ntmps264 results264 rfl ?_;refine AX ?_;refine AX ?_;refine .s rfl (aeC (.tmp _ _ rfl) (.inl rfl)) ?_;rintro _ _ ⟨rfl,hH⟩;obtain rfl:=hH.symm;refine .s rfl (ahU zr184) ?_;rintro _ _ ⟨b4,hb4,rfl,hH⟩;obtain rfl:=hH.symm;refine .nil ?_;iterate 2 refine AX ?_
 have hnb:b≠b4:=by intro q;rw[q,hb4]at hb;cases hb
 have hbq:=(oN H (.box 184 [.int .u64 0,.int .u64 0,.int .i64 0,.bool false]) hnb).trans hb;refine .draw [(0,true),(1,true),(2,true),(3,true),(4,true),(5,true),(6,false),(7,false)] rfl aE ?_;refine .p rfl rfl (zP (.tmp _ _ rfl)) ?_;first|(refine .p rfl rfl (qH G3 (.tmp _ _ rfl)) ?_)|(refine .f rfl rfl (λ_=>yC G3 (.tmp _ _ rfl) (by first|assumption|exact(by assumption:Heap.le _ _).objs _ _ aB|exact oS _ _ _|exact(oN _ _ aB).trans (oS _ _ _)|exact(oN _ _ aB).trans ((oN _ _ aB).trans (oS _ _ _))|exact(oN _ _ aB).trans aB) rfl) ?_)
 refine .p rfl rfl (ahJ zH (.tmp _ _ rfl) aA) ?_;first|(refine .p rfl rfl (abY (.tmp _ _ rfl)) ?_)|(refine .p rfl rfl (aaK (.tmp _ _ rfl)) ?_)|(refine .p rfl rfl (aeV (.tmp _ _ rfl)) ?_)
 first|(refine .p rfl rfl (zA U189 rfl Z187 (.tmp _ _ rfl)) ?_)|(refine .p rfl rfl (zD U189 rfl Z187 (.tmp _ _ rfl)) ?_)
 refine .p rfl rfl (.as (b:=.ptr (some ⟨b,7*i,none⟩)) (by show AV.ptr (some ⟨b,0+0+(400+k).toNat*7,none⟩)=_;rw[show 0+0+(400+k).toNat*7=7*i by omega]) (qZ underlying187 sizeOf186 (.tmp _ _ rfl) (.tmp _ _ rfl) aA aA)) ?_;refine .s rfl rfl (ahU zr302) ?_;rintro _ _ ⟨b5,hb5,rfl,hH⟩;obtain rfl:=hH.symm;have hn4_5:=Heap.ne_of (by first|assumption|exact(by assumption:Heap.le _ _).objs _ _ aB|exact oS _ _ _|exact(oN _ _ aB).trans (oS _ _ _)|exact(oN _ _ aB).trans ((oN _ _ aB).trans (oS _ _ _))|exact(oN _ _ aB).trans aB) hb5;refine .s0 rfl (zN sizeOf302 (.tmp _ _ rfl) (.tmp _ _ rfl) rfl rfl (.inl rfl) (by first|assumption|exact(by assumption:Heap.le _ _).objs _ _ aB|exact oS _ _ _|exact(oN _ _ aB).trans (oS _ _ _)|exact(oN _ _ aB).trans ((oN _ _ aB).trans (oS _ _ _))|exact(oN _ _ aB).trans aB) (lB rfl)) ?_;rintro _ _ ⟨rfl,hH⟩;obtain rfl:=hH.symm;try first|rw[sS]|rw[sU aB]
 refine .nil ?_;refine AX ?_;refine .frz (t:=5) rfl (by first|exact hb5|exact fS hb5 _) ?_;refine AX ?_;refine AX ?_;first|(refine .p rfl (qH G302 (.tmp _ _ rfl)) ?_)|(refine .s rfl (yC G302 (.tmp _ _ rfl) (by first|assumption|exact(by assumption:Heap.le _ _).objs _ _ aB|exact oS _ _ _|exact(oN _ _ aB).trans (oS _ _ _)|exact(oN _ _ aB).trans ((oN _ _ aB).trans (oS _ _ _))|exact(oN _ _ aB).trans aB) rfl) ?_;rintro _ _ ⟨rfl,hH⟩;obtain rfl:=hH.symm)
 first|(refine .p rfl (abY (.tmp _ _ rfl)) ?_)|(refine .p rfl (aaK (.tmp _ _ rfl)) ?_)|(refine .p rfl (aeV (.tmp _ _ rfl)) ?_)
 first|(refine .p rfl (zA U186 rfl sizeOf182 (.tmp _ _ rfl)) ?_)|(refine .p rfl (zD U186 rfl sizeOf182 (.tmp _ _ rfl)) ?_)
 refine .p rfl (bqT (.tmp _ _ rfl) (.tmp _ _ rfl)) ?_;refine .s rfl (zB call306 (.cons (.tmp _ _ rfl) (.cons (.tmp _ _ rfl) .nil)) (ciT f hf k hk i hi b _ (by first|assumption|exact(oN _ _ aB).trans hb))) ?_;rintro _ _ ⟨rfl,hH⟩;obtain rfl:=hH.symm;refine .nil ?_;iterate 2 refine AX ?_
 have hnb2:=hnb.symm;rw[Heap.set_comm hnb2];have hb4:=(oN H (.box 189 (aaR (blN f i (asT k)))) hnb2).trans hb4;refine AX ?_;first|(refine .p rfl (qH G302 (.tmp _ _ rfl)) ?_)|(refine .s rfl (yC G302 (.tmp _ _ rfl) (by first|assumption|exact(by assumption:Heap.le _ _).objs _ _ aB|exact oS _ _ _|exact(oN _ _ aB).trans (oS _ _ _)|exact(oN _ _ aB).trans ((oN _ _ aB).trans (oS _ _ _))|exact(oN _ _ aB).trans aB) rfl) ?_;rintro _ _ ⟨rfl,hH⟩;obtain rfl:=hH.symm)
 first|(refine .p rfl (abY (.tmp _ _ rfl)) ?_)|(refine .p rfl (aaK (.tmp _ _ rfl)) ?_)|(refine .p rfl (aeV (.tmp _ _ rfl)) ?_)
 first|(refine .p rfl (zA U186 rfl Z184 (.tmp _ _ rfl)) ?_)|(refine .p rfl (zD U186 rfl Z184 (.tmp _ _ rfl)) ?_)
 refine .s rfl (AStep.mono (R':=λy H'=>y=apL k∧H'=_) (abX isAgg184 Z184 (.tmp _ _ rfl) (by first|assumption|exact(by assumption:Heap.le _ _).objs _ _ aB|exact oS _ _ _|exact(oN _ _ aB).trans (oS _ _ _)|exact(oN _ _ aB).trans ((oN _ _ aB).trans (oS _ _ _))|exact(oN _ _ aB).trans aB) (by show 7*i+3+4≤_;rw[bmE (hf.upd hi).len];omega)) (λx H' h=>⟨h.1.trans (congrArg AV.agg (ciU (k:=k) hf hi801)),h.2⟩)) ?_;rintro _ _ ⟨rfl,hH⟩;obtain rfl:=hH.symm;refine .s0 (zN Z184 (.tmp _ _ rfl) (.tmp _ _ rfl) rfl rfl (.inr ⟨_,rfl⟩) (by first|assumption|exact(by assumption:Heap.le _ _).objs _ _ aB|exact oS _ _ _|exact(oN _ _ aB).trans (oS _ _ _)|exact(oN _ _ aB).trans ((oN _ _ aB).trans (oS _ _ _))|exact(oN _ _ aB).trans aB) (lB rfl)) ?_;rintro _ _ ⟨rfl,hH⟩;obtain rfl:=hH.symm;try first|rw[sS]|rw[sU aB]
 refine .nil ?_;refine AX ?_;refine .frz (t:=4) rfl (by first|exact hb4|exact fS hb4 _) ?_;refine AX ?_
 
 refine AX ?_;refine⟨?_,blN f i (asT k),hf.upd hi,?_⟩
 ·rfl
 rfl
end
section
open Go Go.RowKit
set_option maxRecDepth 100000
theorem bxX{x:AV}(w:Nat)(h:x=u3 w)(hw:w<M3)(e:Int)(he: -10000≤e∧e≤2000):Fn 266 [x,.int .i64 e] (.int .u64 ((zV false w e false:Nat):Int)):=by
 intro H;subst h;exact ayJ w hw e he H
theorem byA(hw:w<M3)(h:M2≤w%M2+m)(hm:m<M1):(.agg [.int .u64 ((w/M2+1:Nat):Int),.int .u64 (((w%M2+m)%M2/M1:Nat):Int),.int .u64 (((w%M2+m)%M2%M1:Nat):Int)]:AV)=u3 (w+m):=by
 unfold u3 w3;have e1:(w+m)/M2=w/M2+1:=by unfold M1 M2 M3 at *;omega
 have e2:(w+m)/M1%M1=(w%M2+m)%M2/M1:=by unfold M1 M2 M3 at *;omega
 have e3:(w+m)%M1=(w%M2+m)%M2%M1:=by unfold M1 M2 M3 at *;omega
 rw[e1,e2,e3]
theorem bxZ(hw:w<M3)(h:¬M2≤w%M2+m)(hm:m<M1):(.agg [.int .u64 ((w/M2:Nat):Int),.int .u64 (((w%M2+m)%M2/M1:Nat):Int),.int .u64 (((w%M2+m)%M2%M1:Nat):Int)]:AV)=u3 (w+m):=by
 unfold u3 w3;have e1:(w+m)/M2=w/M2:=by unfold M1 M2 M3 at *;omega
 have e2:(w+m)/M1%M1=(w%M2+m)%M2/M1:=by unfold M1 M2 M3 at *;omega
 have e3:(w+m)%M1=(w%M2+m)%M2%M1:=by unfold M1 M2 M3 at *;omega
 rw[e1,e2,e3]
theorem cdK(hw:w+m<M3)(h:M2≤w%M2+m):w/M2+1<18446744073709551616:=by
 unfold M2 M3 at *;omega
theorem bqN(k:Int)(hm:m<M1):ajQ k*m<M3∧ajQ k*m+m<M3:=by
 have hp:=baU k;have h2:ajQ k*m+m=(ajQ k+1)*m:=by rw[bT,cK]
 have h3:(ajQ k+1)*m≤M2*m:=bC _ hp;have h4:M2*m≤M2*(M1-1):=bV _ (by unfold M1 at *;omega);have h5:M2*(M1-1)<M3:=by decide+kernel
 omega
theorem bqZ(hk: -400≤k∧k≤400): -10000≤awM k∧awM k≤2000:=by
 have h1:=alS k.toNat;have h2:=alS (-k).toNat;unfold awM;split<;>omega
theorem biT(f:Nat→List AV)(hf:ROK f)(m:Nat)(hm:m<18446744073709551616)(k:Int)(hk: -400≤k∧k≤400)(b:Nat)(H:Heap)(hb:H.objs b=some (.box 189 (aaR f))):ACall prog 224 [.ptr (some ⟨b,0,none⟩),.int .u64 (m:Int),.int .i64 k] H (λy H'=>y= .tuple [.int .u64 ((alV m k:Nat):Int),.bool (atX m k)]∧∃f',ROK f'∧H'=H.set b (.box 189 (aaR f'))):=by
 obtain⟨hq1,hq2⟩:=bqN k (m:=m) hm;have hE:=bqZ hk;have hpl:=baU k;have hlm:ajQ k*m%M2<M2:=bU _ aE;have hmM:m<M2:=cL hm aE;refine .of_body func224 rfl ntmps224 results224 rfl ?_;iterate 10 refine AM ?_
 refine .s rfl (zB call264 (evs2 rfl rfl) (ccN f hf k hk b _ hb)) ?_;rintro _ _ ⟨rfl,f1,hf1,rfl⟩;refine .al zr184 (λb8 hb8=>?_);iterate 3 refine AX ?_
 refine .frz (t:=8) rfl (hb8) ?_;iterate 2 refine AX ?_
 refine .p rfl (zA U184 rfl Z149 (tm rfl)) ?_;iterate 2 refine AX ?_
 refine .cl rfl call265 (evs2 rfl rfl) (bcU (ajQ k) m hpl hm _) ?_;refine .al zr247 (λb9 hb9=>?_);iterate 3 refine AX ?_
 refine .frz (t:=9) rfl (hb9) ?_;iterate 3 refine AX ?_
 refine .p rfl (zA U184 rfl Z3 (tm rfl)) ?_;refine AX ?_;refine .cl rfl call266 (evs2 rfl rfl) (ayJ _ hq1 _ hE _) ?_;iterate 6 refine AX ?_
 refine .p rfl (zA U184 rfl Z4 (tm rfl)) ?_;iterate 3 refine AX ?_
 refine .cx rfl (λhc26=>?_) (λhc26=>?_)
 ·iterate 10 refine AX ?_
  refine⟨?_,f1,hf1,rfl⟩;unfold atX;rw[show bgY k=true from hc26];rfl
 iterate 5 refine AX ?_
 refine .cl rfl call241 (evs1 rfl) (awV _ _ _ _) ?_;rw[cgN];refine AX ?_;refine .p rfl (zX zr149 pl149 (.cons (tm rfl) (.inl rfl) .nil) rfl) ?_;refine .cl rfl call243 (evs2 rfl rfl) ((by have h:=λH=>aoU (ajQ k*m%M2) m hlm hmM H;rw[amZ (show m<M1 from hm)]at h;exact h _)) ?_;iterate 3 refine AX ?_
 refine .al zr149 (λb11 hb11=>?_);iterate 4 refine AX ?_
 refine .frz (t:=11) rfl (hb11) ?_;iterate 2 refine AX ?_
 refine .p rfl (zA U247 rfl Z22 (tm rfl)) ?_;refine AX ?_;refine .p rfl (zA U149 rfl Z22 (tm rfl)) ?_;refine AX ?_;refine .p rfl (zA U149 rfl Z22 (tm rfl)) ?_;refine AX ?_;refine .p rfl (zX zr247 pl247 (.cons (tm rfl) (.inl rfl) (.cons (tm rfl) (.inl rfl) (.cons (tm rfl) (.inl rfl) .nil))) rfl) ?_;refine .al zr247 (λb13 hb13=>?_);iterate 9 refine AX ?_
 refine .cx rfl (λhc43=>?_) (λhc43=>?_)
 ·have hfit:=cdK hq2 hc43;refine AX ?_;refine .p rfl (zD U247 rfl Z22 (tm rfl)) ?_;refine AX ?_;refine .p rfl (yV (tm rfl) (zR 1) (by exact hfit)) (.p rfl (zD U247 rfl Z22 (tm rfl)) ?_);iterate 7 refine AX ?_
  refine .p rfl (zA U184 rfl Z3 (tm rfl)) ?_;refine AX ?_;refine .cl rfl call266 (evs2 rfl rfl) (bxX (ajQ k*m+m) (byA hq1 hc43 hm) hq2 _ hE _) ?_;iterate 6 refine AX ?_
  refine .dropb (hb13) ?_;iterate 2 refine AX ?_
  refine⟨?_,f1,hf1,rfl⟩;unfold atX;rw[show bgY k=false from hc26,Bool.false_or,bT,cK];have e:decide (((zV false (ajQ k*m+m) (awM k) false:Nat):Int)=((alV m k:Nat):Int))=decide (zV false (ajQ k*m+m) (awM k) false=alV m k):=aT.2 aA;rw[←e];rfl
 iterate 6 refine AX ?_
 refine .p rfl (zA U184 rfl Z3 (tm rfl)) ?_;refine AX ?_;refine .cl rfl call266 (evs2 rfl rfl) (bxX (ajQ k*m+m) (bxZ hq1 hc43 hm) hq2 _ hE _) ?_;iterate 6 refine AX ?_
 refine .dropb (hb13) ?_;iterate 2 refine AX ?_
 refine⟨?_,f1,hf1,rfl⟩;unfold atX;rw[show bgY k=false from hc26,Bool.false_or,bT,cK];have e:decide (((zV false (ajQ k*m+m) (awM k) false:Nat):Int)=((alV m k:Nat):Int))=decide (zV false (ajQ k*m+m) (awM k) false=alV m k):=aT.2 aA;rw[←e];rfl
theorem beT:∀(l:List UInt8)(acc:Nat),Digs l→bgZ acc l<18446744073709551616→Lib.parseUintM 18446744073709551615 acc l= .ok (bgZ acc l)
 | [],acc,_,_=>rfl
 |c::r,acc,hd,h=>by
  have hc:=hd c aF;rw[aeG]at h;have h1:=bwT (acc*10+(c.toNat-48)) r;unfold Lib.parseUintM;rw[aN ⟨hc.1,hc.2⟩,aI,aI,aeG];exact beT r _ (λb hb=>hd b (by simp[hb])) h
theorem byZ{ds:List UInt8}(hd:Digs ds)(hl:ds.length≤19):num ds<18446744073709551616:=by
 have h:=aiN hd;refine bM h (aZ (aW aC hl) aC)
theorem bzA{ds:List UInt8}(hd:Digs ds)(hl:ds.length≤15):num ds<9223372036854775808:=by
 have h:=aiN hd;refine bM h (aZ (aW aC hl) aC)
theorem bkX(w:World)(e:TypeId)(s:ByteArray):Below w.heap.size w (Lib.bytesWorld w e s):=
 ⟨rfl,rfl,rfl,by rw[Lib.bytesWorld_size];omega,λk hk=>Lib.bytesWorld_at_old w e s k hk⟩
theorem puintA(ds:List UInt8)(hne:ds≠[])(hd:Digs ds)(hl:ds.length≤19):Fn 223 [.str ds,.int .i64 10,.int .i64 64] (.tuple [.int .u64 (num ds:Int),.nilIface]):=by
 intro H;refine .lib _ λg vs w k st=>?_;obtain⟨v,u,x,rfl,hv,hu,hx⟩:=relvs3 k;cases hv with|str _ hs=>?_
 cases hu;cases hx
 have hp:Lib.parseUintB 64 ds= .ok (num ds):=by
  unfold Lib.parseUintB;rw[aL hne];exact beT ds 0 hd (byZ hd hl)
 refine(Tryz.strconv_ParseUint_10_at64_ok ⟨ds.toArray⟩ (by show ds.toArray.size≤_;rw[eQ];omega) (num ds) hp w).mono ?_;rintro e w' ⟨rfl,h⟩;refine⟨_,rfl,RelV.two (.int _ _) .nilIface,?_⟩;rcases h with rfl|rfl
 ·exact Below.refl _ _
 exact bkX _ _ _
def chP:Nat→Nat
 |0=>zV false 1 0 false
 |i+1=>afD (chP i) (zV false 10 0 false)
def ckF(m j:Nat):Nat:=afD (zV false m 0 false) (chP j)
theorem azY(n:Nat)(e:Int)(more:Bool):zV false n e more<18446744073709551616:=aU (adJ n e more) aC
theorem afA(neg:Bool)(n:Nat)(e:Int)(more:Bool):zV neg n e more<18446744073709551616:=by
 have h:zV neg n e more=qG neg+zV false n e more:=by
  unfold zV;split
  ·rfl
  split
  ·unfold qG;simp
  rw[baW,baW];unfold qG;simp
 have h2:=adJ n e more;rw[h];unfold qG amY at *;split<;>omega
theorem alH(a b:Nat):afD a b<18446744073709551616:=by
 unfold afD;split
 ·decide
 split
 ·split<;>decide
 exact afA _ _ _ _
theorem pointR(neg:Bool)(ds:List UInt8)(e:Int)(hr:qE ds e=true):Fn 107 [dA neg ds e] (.int .i64 ((ds.length:Int)+e)):=by
 intro H;have h:=amU neg ds e (qJ hr) H;rw[show ajP ds e=(ds.length:Int)+e by unfold ajP;rw[aN hr]]at h;exact h
theorem buD(i:Nat):chP i<18446744073709551616:=by
 cases i with
 |zero=>exact azY _ _ _
 |succ i=>exact alH _ _
def akB(ds:List UInt8)(e:Int):Nat:=
 if ds=[]∨(ds.length:Int)+e< -330 then 0
 else if 310<(ds.length:Int)+e then amY
 else if ds.length≤19 then
  (if ds.length≤15∧0≤e∧e≤22 then ckF (num ds) e.toNat
   else if atX (num ds) e=true then alV (num ds) e else asS (num ds) e)
 else asS (num ds) e
def cfM(b:Nat)(ds:List UInt8)(e:Int)(H:Heap):Nat→Env→Heap→Prop:=λk env H1=>∃i:Nat,(i:Int)≤e∧env=[(6,.int .u64 ((num ds:Nat):Int)),(8,.int .u64 ((chP i:Nat):Int)),(50,.int .i64 e),(51,.int .i64 (i:Int))]∧H=H1∧k=e.toNat-i
theorem biC(f:Nat→List AV)(hf:ROK f)(neg:Bool)(ds:List UInt8)(e:Int)(hr:qE ds e=true)(b:Nat)(H:Heap)(hb:H.objs b=some (.box 189 (aaR f))):ACall prog 167 [.ptr (some ⟨b,0,none⟩),dA neg ds e] H (λy H'=>y= .int .u64 ((akB ds e:Nat):Int)∧∃f',ROK f'∧H'=H.set b (.box 189 (aaR f'))):=by
 have hd:=qJ hr;have hrl:=qT hr;have ht10:zV false 10 0 false<18446744073709551616:=azY _ _ _;refine .of_body func167 rfl ntmps167 results167 rfl ?_;iterate 10 refine AM ?_
 refine .cl rfl call107 (evs1 rfl) (pointR neg ds e hr _) ?_;iterate 4 refine AX ?_
 refine .seqTo 13 (.bool (decide (ds=[])||decide ((ds.length:Int)+e< -330))) [0,3,4,5] ?_ ?_
 ·refine AX ?_;refine .p rfl (zA U58 rfl Z9 (tm rfl)) ?_;iterate 3 refine AX ?_
  refine zC (t:=17) rfl (λhg17=>?_) (λhg17=>?_)
  ·have hh17:=hg17;try simp only[aO]at hh17
   iterate 5 refine AX ?_
   exact⟨rfl,zL rfl (by(rw[show decide (ds=[])=_ from hg17];rfl)) sX,rfl⟩
  have hh17:=hg17;try simp only[aM]at hh17
  iterate 5 refine AX ?_
  exact⟨rfl,zL rfl (by(rw[show decide (ds=[])=_ from hg17];rfl)) sX,rfl⟩
 refine .sub [(13,_),(0,_),(3,_),(4,_),(5,_)] sX ?_;refine .cx rfl (λhc13=>?_) (λhc13=>?_)
 ·simp only[cN,aO]at hc13;iterate 9 refine AM ?_
  refine⟨?_,f,hf,(Heap.set_self hb).symm⟩;unfold akB;rw[aN (hc13)];rfl
 simp only[cC,aM]at hc13;obtain⟨hne,hlow⟩:=hc13;iterate 7 refine AX ?_
 refine .cx rfl (λhc21=>?_) (λhc21=>?_)
 ·iterate 9 refine AM ?_
  refine⟨?_,f,hf,(Heap.set_self hb).symm⟩;unfold akB;rw[aL (by intro q;rcases q with q|q;exact hne q;omega),aJ];rfl
 iterate 6 refine AX ?_
 refine .p rfl (zA U58 rfl Z9 (tm rfl)) ?_;iterate 5 refine AX ?_
 refine .cx rfl (λhc27=>?_) (λhc27=>?_)
 ·have hl19:ds.length≤19:=by omega
  iterate 2 refine AX ?_
  refine .p rfl (zA U58 rfl Z9 (tm rfl)) ?_;refine AX ?_;refine .cl rfl call223 (.cons (tm rfl) (.cons zH (.cons zH .nil))) (puintA ds hne hd hl19 _) ?_;iterate 8 refine AX ?_
  refine .seqTo 47 (.bool (decide ((ds.length:Int)≤15)&&decide (0≤e)&&decide (e≤22))) [0,3,4,6] ?_ ?_
  ·refine AX ?_;refine .p rfl (zA U58 rfl Z9 (tm rfl)) ?_;iterate 4 refine AX ?_
   refine zC (t:=38) rfl (λhg38=>?_) (λhg38=>?_)
   ·have hh38:=hg38;try simp only[aO]at hh38
    refine .gp rfl rfl rfl aB (zA U58 rfl Z3 (tm rfl)) ?_;iterate 4 refine AX ?_
    refine zC (t:=43) rfl (λhg43=>?_) (λhg43=>?_)
    ·have hh43:=hg43;try simp only[aO]at hh43
     refine .gp rfl rfl rfl aB (zA U58 rfl Z3 (tm rfl)) ?_;iterate 4 refine AX ?_
     exact⟨rfl,zL rfl (by(rw[show decide ((ds.length:Int)≤15)=_ from hg38,show decide (0≤e)=_ from hg43];rfl)) sX,rfl⟩
    have hh43:=hg43;try simp only[aM,dO]at hh43
    iterate 5 refine AX ?_
    exact⟨rfl,zL rfl (by(rw[show decide ((ds.length:Int)≤15)=_ from hg38,show decide (0≤e)=_ from hg43];rfl)) sX,rfl⟩
   have hh38:=hg38;try simp only[aM,dO]at hh38
   iterate 10 refine AX ?_
   exact⟨rfl,zL rfl (by(rw[show decide ((ds.length:Int)≤15)=_ from hg38];rfl)) sX,rfl⟩
  refine .sub [(47,_),(0,_),(3,_),(4,_),(6,_)] sX ?_;refine .cx rfl (λhc47=>?_) (λhc47=>?_)
  ·simp only[bL,aO]at hc47;have hm63:=bzA hd aA;iterate 2 refine AX ?_
   refine .cl rfl C55 (.cons zH .nil) (agE 1 aC _) ?_;iterate 6 refine AX ?_
   refine .p rfl (zA U58 rfl Z3 (tm rfl)) ?_;iterate 5 refine AX ?_
   refine .loopW (cfM b ds e H) (e.toNat) ⟨0,by omega,rfl,rfl,rfl⟩ sX (hRa _) ?_;rintro _ _ _ ⟨i,hi,rfl,rfl,rfl⟩;iterate 6 refine AX ?_
   refine .cx rfl (λhc52=>?_) (λhc52=>?_)
   ·iterate 6 refine AX ?_
    refine .cl rfl C55 (.cons zH .nil) (agE 10 aC _) (.cl rfl C133 (evs2 rfl rfl) (aiP _ _ (buD _) ht10 _) ?_);iterate 9 refine AX ?_
    refine Round.mk ⟨i+1,by omega,rfl,rfl,rfl⟩ sX (hRa _) aA
   iterate 8 refine AX ?_
   refine .p rfl (aaD U22 U3 (tm rfl) (wrapNI64 aB)) (.cl rfl C55 (evs1 rfl) (agE (num ds) (bzA hd aA) _) ?_);refine AX ?_;refine .cl rfl C133 (evs2 rfl rfl) (aiP _ _ (azY _ _ _) (buD _) _) ?_;iterate 7 refine AX ?_
   refine⟨?_,f,hf,(Heap.set_self hb).symm⟩;unfold akB;obtain rfl:i=e.toNat:=by omega
   rw[aL (by intro q;rcases q with q|q;exact hne q;omega),aI,aN hl19,aJ];rfl
  simp only[bX,aM]at hc47;iterate 6 refine AX ?_
  refine .p rfl (zA U58 rfl Z3 (tm rfl)) ?_;refine AX ?_;refine .s rfl (zB call224 (evs3 rfl rfl rfl) (biT f hf (num ds) (byZ hd hl19) e (by constructor<;>omega) b _ hb)) ?_;rintro _ _ ⟨rfl,f1,hf1,rfl⟩;iterate 12 refine AX ?_
  refine .cx rfl (λhc70=>?_) (λhc70=>?_)
  ·iterate 9 refine AX ?_
   refine⟨?_,f1,hf1,rfl⟩;unfold akB;rw[aL (by intro q;rcases q with q|q;exact hne q;omega),aI,aN hl19,aI,aN hc70];rfl
  iterate 5 refine AX ?_
  refine .cl rfl call225 (evs1 rfl) (axG neg ds e hr hne aA _) ?_;iterate 5 refine AX ?_
  refine⟨?_,f1,hf1,rfl⟩;unfold akB;rw[aL (by intro q;rcases q with q|q;exact hne q;omega),aI,aN hl19,aI,aL (by rw[hc70];decide)];rfl
 iterate 5 refine AX ?_
 refine .cl rfl call225 (evs1 rfl) (axG neg ds e hr hne aA _) ?_;iterate 5 refine AX ?_
 refine⟨?_,f,hf,(Heap.set_self hb).symm⟩;unfold akB;rw[aL (by intro q;rcases q with q|q;exact hne q;omega),aI,aI];rfl
theorem bpB(neg:Bool)(x:Nat)(hx:x<9223372036854775808):Fn 166 [.bool neg,.int .u64 (x:Int)] (.int .u64 ((qG neg+x:Nat):Int)):=by
 intro H;refine .of_body func166 rfl ntmps166 results166 rfl ?_;iterate 11 refine AM ?_
 refine .cx rfl (λhc5=>?_) (λhc5=>?_)
 ·iterate 10 refine AM ?_
  refine⟨?_,rfl⟩;rw[show neg=true from hc5,show qG true=9223372036854775808 from rfl,←bjK hx];rfl
 iterate 10 refine AX ?_
 refine⟨?_,rfl⟩;rw[show neg=false from hc5,show qG false=0 from rfl,bZ];rfl
theorem boA{a b:Nat}(ha:a<9223372036854775808)(hb:b<9223372036854775808):afD a b≤9221120237041090560:=by
 have hn:aeH a b=false:=by
  unfold aeH;refine bB ?_;rw[bW (show a<2^63 from ha),bW (show b<2^63 from hb)];simp
 unfold afD;rw[hn];split
 ·exact aV _
 split
 ·decide
 exact aZ (adJ _ _ _) aC
theorem bhO:∀i,chP i<9223372036854775808
 |0=>aU (adJ _ _ _) aC
 |i+1=>aU (boA (bhO i) (aU (adJ _ _ _) aC)) aC
theorem blW(ds:List UInt8)(e:Int):akB ds e<9223372036854775808:=by
 have hs:asS (num ds) e<9223372036854775808:=by
  unfold asS bdY;split<;>exact aU (adJ _ _ _) aC
 unfold akB;split
 ·decide
 split
 ·decide
 split
 ·split
  ·exact aU (boA (aU (adJ _ _ _) aC) (bhO _)) aC
  split
  ·exact aU (adJ _ _ _) aC
  exact hs
 exact hs
def akQ(neg:Bool)(ds:List UInt8)(e:Int):Nat:=qG neg+akB ds e
theorem biP(f:Nat→List AV)(hf:ROK f)(neg:Bool)(ds:List UInt8)(e:Int)(hr:qE ds e=true)(b:Nat)(H:Heap)(hb:H.objs b=some (.box 189 (aaR f))):ACall prog 99 [.ptr (some ⟨b,0,none⟩),dA neg ds e] H (λy H'=>y= .tuple [.int .u64 ((akQ neg ds e:Nat):Int),.int .i64 0]∧∃f',ROK f'∧H'=H.set b (.box 189 (aaR f'))):=by
 refine .of_body func99 rfl ntmps99 results99 rfl ?_;iterate 4 refine AM ?_
 iterate 7 refine AX ?_
 refine .cl rfl C165 (evs1 rfl) (agW neg ds e (qJ hr) _) ?_;iterate 3 refine AX ?_
 refine .cond_false (tm rfl) (by rw[hr];rfl) ?_;iterate 3 refine AX ?_
 refine .draw [(0,true),(1,true),(2,true),(3,true),(4,false),(5,false),(6,true),(7,true)] rfl aE ?_;refine .p rfl rfl (zA U58 rfl Z4 (tm rfl)) ?_;iterate 3 refine AX ?_
 refine .s rfl rfl (zB call167 (evs2 rfl rfl) (biC f hf neg ds e hr b _ hb)) ?_;rintro _ _ ⟨rfl,f1,hf1,rfl⟩;refine .s rfl rfl (zB call166 (evs2 rfl rfl) (bpB neg _ (blW ds e) _)) ?_;rintro _ _ ⟨rfl,hH⟩;obtain rfl:=hH.symm;iterate 6 refine AX ?_
 exact⟨rfl,f1,hf1,rfl⟩
end
end Go.Proofs.YtmmgbnolccpjoaaGreatDoor
