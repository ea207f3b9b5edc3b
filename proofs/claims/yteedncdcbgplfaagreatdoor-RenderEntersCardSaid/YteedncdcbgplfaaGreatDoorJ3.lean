import Derived.Test.YteedncdcbgplfaaGreatDoorJ2
import Derived.RangeFuncBox
import Derived.Shelf.SlIterI.Collect
set_option maxHeartbeats 1000000
namespace Go.Proofs.YteedncdcbgplfaaGreatDoor
open Go.Proofs.Tryz
open Go Go.RowKit Go.Shelf Go.Maps
section
set_option maxRecDepth 100000
def bgY:Go.Shelf.Ren:=⟨fun|8=>142|11=>217|n=>n,fun|0=>0|24=>30|26=>3|28=>289|33=>206|n=>n,fun|n=>n⟩
theorem collectL:Go.Proofs.SlLaysZI.n8 prog bgY:={
  mixed:=by kernel_rfl
  f8:=⟨Tryz.f142.name,by decide,func142.trans (congrArg some (by kernel_rfl))⟩
  f11:=⟨Tryz.f217.name,by decide,func217.trans (congrArg some (by kernel_rfl))⟩
  t0:=underlying0
  a0:=isAgg0
  z0:=sizeOf0
  v0:=zeroValue0
  t24:=U30
  a24:=G30
  z24:=Z30
  v24:=zeroValue30
  t26:=U3
  a26:=G3
  z26:=Z3
  v26:=V3
  t28:=underlying289
  a28:=isAgg289
  z28:=sizeOf289
  v28:=zeroValue289
  i26:=by kernel_rfl}
def aiP(n:Nat):List Int:=(List.range n).map λi:Nat=>(i:Int)
theorem cfH(k:Nat):aiP (k+1)=aiP k++[(k:Int)]:=by simp[aiP,List.range_succ]
theorem azV(k:Nat):(aiP k).length=k:=by simp[aiP]
attribute [local go_sem] Oper.semAt_some
set_option maxHeartbeats 2000000 in
theorem chW(F:Fence)(n:Nat)(hn:1≤n)(h7:F.fn 218)(hro:F.round=none)(l Bs off N:Nat)(hN:N≤1000)(J:List Int→World→Prop)
  (hY:∀pre x W,J pre W→pre.length<N→YieldAt F (n-1) prog l #[.int .i64 x] W λe W'=>e= .returned (.bool true)∧J (pre++[x]) W'∧KeepsWalks W W')
  (W:World)(hBs:W.cell? ⟨Bs,off,none⟩=some (.int .i64 (N:Int)))(h0:J [] W):
  CallsIn F n prog 218 #[.func (.yield l) #[] #[],.pointer (some ⟨Bs,off,none⟩)] W λe W'=>(∃v,e= .returned v)∧∃ys,ys=aiP N∧J ys W':=by
 refine callsIn_of_wp func218 rfl h7 ?_ hro;simp only[ntmps218,eH,aW,bG,Nat.reduceAdd,Nat.reduceSub,Array.replicate_succ,Array.replicate_zero,List.push_toArray,List.append_toArray,cH,eE]
 gi_wp2
 gi_loopw [5] (λi wr=>∃k:Nat,k≤N∧i= .int .i64 k∧J (aiP k) wr) (λi _=>N-(intOf i).toNat)
 case atStart=>exact⟨0,Nat.zero_le _,rfl,h0⟩
 case round=>
  obtain⟨k,hk,rfl,hJs⟩:=hrel;by_cases hlt:k<N
  ·obtain⟨fn,tmps,assign,body,hy,hR⟩:=hY _ (k:Int) wr hJs (by rw[azV];exact hlt)
   gi_wp2
   refine hR.mono ?_;rintro e W3 ⟨rfl,hJ3,_⟩
   gi_wp2
   go_roundw
   case rel=>exact⟨k+1,by omega,by simp,by rw[cfH];exact hJ3⟩
   case measure=>simp[intOf];omega
  obtain rfl:k=N:=by omega
  gi_wp2
  go_end0
  exact⟨⟨_,rfl⟩,_,rfl,hJs⟩
theorem boD(F:Fence)(n:Nat)(hn:1≤n)(h7:F.fn 218)(hro:F.round=none)(Bs off N:Nat)(hN:N≤1000)(w:World)(hl:Bs<w.heap.size)(hBs:w.cell? ⟨Bs,off,none⟩=some (.int .i64 (N:Int))):
  SeqGives F n prog 218 #[.pointer (some ⟨Bs,off,none⟩)] encZ (λys=>ys=aiP N) N w:=λl J W hW _ hY h0=>
 chW F n hn h7 hro l Bs off N hN J hY W ((hW.cell (p:=⟨Bs,off,none⟩) hl).trans hBs) h0
theorem collA(N:Nat)(hN:N≤1000):Fn 142 [.func 218 [.iptr [.int .i64 (N:Int)]]] (.slice 1 ((aiP N).map (.int .i64)) .shared):=by
 intro H;intro g vs w hvs s;obtain⟨v,rfl,hv⟩:=relvs1 hvs;cases hv with|func f cs us hn hr=>?_
 have hu:us.size=1:=hn.symm;obtain⟨u,rfl⟩:=Array.size_eq_one_iff.1 hu;have hp:=hr 0 _ _ rfl rfl;cases hp with|iptr _ b off vs himm hrel=>?_
 have hc:=s.imm b (off+0) (vs 0) (himm 0 aF);have h0:=hrel 0 _ rfl;generalize vs 0=u0 at hc h0;cases h0
 have hlt:=World.block_lt_of_cell? w _ hc;have hseq:=boD Fence.wide 3 aA trivial rfl b off N hN w hlt hc;have fin:=AnyZI.collect_in collectL Fence.wide 5 trivial trivial rfl aA 218 #[.pointer (some ⟨b,off,none⟩)] trivial (enters_of func218 (by kernel_rfl) rfl) _ N (by unfold maxLen;omega) aA w hseq;refine(callsIn_wide.1 fin).mono ?_;rintro e w' ⟨v,ss,rfl,rfl,hrow,_,hb⟩;obtain⟨g',hle,hrv,s'⟩:=s.ownedRow hb hrow;exact⟨v,rfl,g',_,H,hle,hrv,s',rfl,rfl⟩
end
section
open Go Go.RowKit
set_option maxRecDepth 100000
theorem zr52:∀g,RelCells g [.slice 2 [] .full,.bool false,.int .i64 0] (Value.cells (Go.Value.agg #[Go.Value.slice none 0 0,Go.Value.bool false,Go.Value.int Go.IntKind.i64 0])):=λ_=>RelL.cells (.cons (.nilSlice _ _) (.cons (.bool _) (.cons (.int _ _) .nil)))
theorem pl52(fs:Array Field)(hfs:prog.underlying 52=some (.struct fs)):∀(i:Nat) f p,fs[i]?=some f→[(0,1),(1,1),(2,1)][i]?=some p→∀w,(sizeOf f.type).run prog w= .ok p.2 w:=by
 have e:=(Option.some.inj (hfs.symm.trans U52));cases e
 intro i f p hf hp w
 match i with
 |0=>cases hf;cases hp;exact Z50 w
 |1=>cases hf;cases hp;exact Z4 w
 |2=>cases hf;cases hp;exact Z3 w
 |i+3=>simp at hp
def SecN.av(s:SecN):AV:=.agg (s.cs .shared)
def bdM(p:List SecN)(tl:Tail):AV:=.slice 3 (p.map SecN.av) tl
def ccU(n:Nat)(i:Nat)(k:Int):Bool:=if k=0 then true else if k=1 then false else if k=6 then decide (i<3∧1<n)else decide (i=3)
def atV(p:List SecN)(i:Nat):SecN:=p.getD i ⟨[],false,0⟩
def azR(p:List SecN):Bool:=(List.range p.length).any λi=>ccU p.length i (yH (atV p i))
def bdK:List SecN→Nat
 | []=>0
 |s::p=>s.items.length+bdK p
def aeP(p:List SecN):Bool:=decide (1≤p.length∧p.length≤4∧bdK p≤100)&& !azR p
theorem baB{p:List SecN}{i:Nat}(h:i<p.length):bdK (p.take (i+1))=bdK (p.take i)+p[i].items.length:=by
 induction p generalizing i with
 |nil=>simp at h
 |cons s p ih=>
  cases i with
  |zero=>simp[bdK]
  |succ i=>simp only[fI,bdK,List.getElem_cons_succ,ih (by simpa using h)];omega
theorem brC(p:List SecN)(i:Nat):bdK (p.take i)≤bdK p:=by
 induction p generalizing i with
 |nil=>simp[bdK]
 |cons s p ih=>cases i with
  |zero=>simp[bdK]
  |succ i=>simp only[fI,bdK];have:=ih i;omega
theorem akT{p:List SecN}{i:Nat}(h:i<p.length):atV p i=p[i]:=by
 unfold atV;rw[aP,aX h];rfl
theorem bkZ{n:Nat}{f:Nat→Bool}:(decide ((if(aiP n).findIdx (λz=>f z.toNat)=(aiP n).length then(-1:Int)else(((aiP n).findIdx λz=>f z.toNat:Nat):Int))<0))= !(List.range n).any f:=by
 have e:(aiP n).findIdx (λz=>f z.toNat)=(aiP n).length↔∀i,i<n→f i=false:=by
  rw[List.findIdx_eq_length];constructor
  ·intro h i hi;exact h (i:Int) (fW.2 ⟨i,gA.2 hi,rfl⟩)
  intro h z hz;unfold aiP at hz;obtain⟨i,hi,rfl⟩:=fW.1 hz;exact h i (by simpa using hi)
 by_cases q:∀i,i<n→f i=false
 ·rw[aN (e.2 q)];have:(List.range n).any f=false:=by rw[List.any_eq_false];intro i hi;rw[q i (by simpa using hi)];simp
  rw[this];rfl
 rw[aM (λz=>q (e.1 z))];have:(List.range n).any f=true:=by
  rw[List.any_eq_true];obtain⟨i,q⟩:=Classical.not_forall.1 q;obtain⟨hi,hf⟩:=Classical.not_imp.1 q;exact⟨i,by simpa using hi,by simpa using hf⟩
 rw[this];exact aS aA
theorem bxT{n:Nat}{z:Int}(h:z∈aiP n):0≤z∧z<n:=by
 unfold aiP at h;obtain⟨i,hi,rfl⟩:=fW.1 h;have:=gA.1 hi;omega
theorem bwT(p:List SecN)(tp:Tail)(hs:∀s,s∈p→s.items.length≤1000)(i:Nat)(hi:i<p.length)(hp:p.length≤1000):Fn 144 [.int .i64 (i:Int),.iptr [bdM p tp]] (.bool (ccU p.length i (yH (atV p i)))):=by
 intro H;have hsi:=hs _ (cF hi);rw[akT hi];refine .of_body func144 rfl ntmps144 results144 rfl ?_;iterate 8 refine AX ?_
 refine .p rfl (zA U24 rfl Z22 (tm rfl)) ?_;iterate 4 refine AX ?_
 refine .cl rfl call35 (evs1 rfl) (alT p[i].items p[i].grouped p[i].scale _ aA _) ?_;rw[show(SecN.mk p[i].items p[i].grouped p[i].scale)=p[i]from rfl];generalize yH p[i]=k at *;iterate 15 refine AX ?_
 refine .cx rfl (λhc12=>?_) (λhc12=>?_)
 ·iterate 9 refine AX ?_
  refine⟨?_,rfl⟩;unfold ccU;rw[aN hc12];rfl
 iterate 6 refine AX ?_
 refine .cx rfl (λhc14=>?_) (λhc14=>?_)
 ·iterate 9 refine AX ?_
  refine⟨?_,rfl⟩;unfold ccU;rw[aM hc12,aN hc14];rfl
 iterate 6 refine AX ?_
 refine .cx rfl (λhc16=>?_) (λhc16=>?_)
 ·refine .seqTo 3 (.bool (decide (i<3∧1<p.length))) [0] ?_ ?_
  ·iterate 4 refine AX ?_
   refine zD (t:=20) rfl (λhg20=>?_) (λhg20=>?_)
   ·have hh20:=hg20;try simp only[aL]at hh20
    refine .gp rfl rfl rfl aB (zA U24 rfl Z22 (tm rfl)) ?_;iterate 6 refine AX ?_
    exact⟨rfl,zS rfl (by(refine Eq.symm ?_;first|exact aU aA|exact aS aA|exact aQ.2 aA)) (zK rfl yF),rfl⟩
   have hh20:=hg20;try simp only[aL]at hh20
   iterate 7 refine AX ?_
   exact⟨rfl,zS rfl (by(refine Eq.symm ?_;first|exact aU aA|exact aS aA|exact aQ.2 aA)) (zK rfl yF),rfl⟩
  refine .sub [(3,_),(0,_)] sX ?_;iterate 4 refine AX ?_
  refine⟨?_,rfl⟩;unfold ccU;rw[aM hc12,aM hc14,aN hc16];rfl
 iterate 12 refine AX ?_
 refine⟨?_,rfl⟩;unfold ccU;rw[aM hc12,aM hc14,aM hc16];exact congrArg AV.bool (aQ.2 aA)
def buY(l:List Int)(tl:Tail)(f:FuncId)(cap:List AV)(p:Int→Bool)(H:Heap):Nat→Env→Heap→Prop:=λk env H1=>∃i:Nat,i≤l.length∧(∀q x,q<i→l[q]?=some x→p x=false)∧env=[(0,.slice 1 (l.map (.int .i64)) tl),(1,.func f cap),(6,.slice 1 (l.map (.int .i64)) tl),(7,.int .i64 (l.length:Int)),(8,.int .i64 (i:Int))]∧H=H1∧k=l.length-i
theorem bgL(l:List Int)(tl:Tail)(hl:l.length≤100000)(f:FuncId)(cap:List AV)(p:Int→Bool)(H:Heap)(hent:∀args w,(callFunc f args).run prog w= .ok (.enter f args) w)(hf:∀x,x∈l→ACall prog f (.int .i64 x::cap) H (λy H'=>y= .bool (p x)∧H'=H)):ACall prog 141 [.slice 1 (l.map (.int .i64)) tl,.func f cap] H (λy H'=>y= .int .i64 (if l.findIdx p=l.length then-1 else(l.findIdx p:Nat))∧H'=H):=by
 refine .of_body func141 rfl ntmps141 results141 rfl ?_;iterate 14 refine AX ?_
 refine .loopW (buY l tl f cap p H) (l.length) ⟨0,Nat.zero_le _,λq x h=>by omega,rfl,rfl,rfl⟩ sX (hRa _) ?_;rintro _ _ _ ⟨i,hi,hno,rfl,rfl,rfl⟩;iterate 6 refine AX ?_
 refine .cx rfl (λhc9=>?_) (λhc9=>?_)
 ·iterate 17 refine AX ?_
  refine .e rfl (ahA hent (tm rfl) (evs1 rfl) (hf _ (cF _))) ?_;iterate 2 refine AX ?_
  refine .cx rfl (λhc16=>?_) (λhc16=>?_)
  ·iterate 13 refine AX ?_
   have hh:=bkK hno aA hc16;refine⟨?_,rfl⟩;rw[hh,aJ];rfl
  iterate 8 refine AX ?_
  refine Round.mk ⟨i+1,by omega,bcO hno aA (by simpa using hc16),rfl,rfl,rfl⟩ sX (hRa _) aA
 iterate 12 refine AX ?_
 have hh:=bcN hno aA;refine⟨?_,rfl⟩;rw[hh,aN rfl];rfl
theorem boC(n:Nat):Fn 143 [.int .i64 (n:Int)] (.func 218 [.iptr [.int .i64 (n:Int)]]):=by
 intro H;refine .of_body func143 rfl ntmps143 results143 rfl ?_;iterate 3 refine AX ?_
 refine .p rfl (zE boR) ?_;iterate 10 refine AX ?_
 exact⟨rfl,rfl⟩
theorem apY(p:List SecN)(tp:Tail)(hs:∀s,s∈p→s.items.length≤1000)(hp:p.length≤1000)(H:Heap):ACall prog 62 [.agg [bdM p tp]] H (λy H'=>∃q:Int,y= .int .i64 q∧decide (q<0)= !azR p∧H'=H):=by
 refine .of_body func62 rfl ntmps62 results62 rfl ?_;iterate 8 refine AX ?_
 refine .p rfl (zA U24 rfl Z22 (tm rfl)) ?_;iterate 2 refine AX ?_
 refine .cl rfl call143 (evs1 rfl) (boC p.length _) (.cl rfl call142 (evs1 rfl) (collA p.length hp _) ?_);refine AX ?_;refine .cl rfl call141 (evs2 rfl rfl) (bgL (aiP p.length) _ (by rw[azV];omega) _ _ (λz=>ccU p.length z.toNat (yH (atV p z.toNat))) _ call144 (λx hx=>by obtain⟨h1,h2⟩:=bxT hx;obtain⟨i,rfl⟩:=Int.eq_ofNat_of_zero_le h1;exact bwT p tp hs i aA hp _)) ?_;iterate 5 refine AX ?_
 exact⟨_,rfl,bkZ (n:=p.length) (f:=λi=>ccU p.length i (yH (atV p i))),rfl⟩
def biY(p:List SecN)(tp:Tail)(H:Heap):Nat→Env→Heap→Prop:=λk env H1=>∃i:Nat,i≤p.length∧bdK (p.take i)≤100∧env=[(1,.iptr [bdM p tp]),(3,.int .i64 (bdK (p.take i):Int)),(17,bdM p tp),(18,.int .i64 (p.length:Int)),(19,.int .i64 (i:Int))]∧H=H1∧k=p.length-i
theorem apD(p:List SecN)(tp:Tail)(hs:∀s,s∈p→s.items.length≤1000):Fn 30 [.agg [bdM p tp]] (.bool (aeP p)):=by
 intro H;refine .of_body func30 rfl ntmps30 results30 rfl ?_;iterate 7 refine AX ?_
 refine .seqTo 15 (.bool (decide (p.length<1∨4<p.length))) [1,2] ?_ ?_
 ·refine AX ?_;refine .p rfl (zA U24 rfl Z22 (tm rfl)) ?_;iterate 4 refine AX ?_
  refine zD (t:=10) rfl (λhg10=>?_) (λhg10=>?_)
  ·have hh10:=hg10;try simp only[aL]at hh10
   iterate 6 refine AX ?_
   exact⟨rfl,zS rfl (by(refine Eq.symm ?_;first|exact aU aA|exact aS aA|exact aQ.2 aA)) sX,rfl⟩
  have hh10:=hg10;try simp only[aL]at hh10
  refine .gp rfl rfl rfl aB (zA U24 rfl Z22 (tm rfl)) ?_;iterate 5 refine AX ?_
  exact⟨rfl,zS rfl (by(refine Eq.symm ?_;first|exact aU aA|exact aS aA|exact aQ.2 aA)) sX,rfl⟩
 refine .sub [(15,_),(1,_),(2,_)] sX ?_;refine .cx rfl (λhc15=>?_) (λhc15=>?_)
 ·iterate 8 refine AX ?_
  refine⟨?_,rfl⟩;unfold aeP;rw[aS aA];rfl
 iterate 10 refine AX ?_
 refine .p rfl (zA U24 rfl Z22 (tm rfl)) ?_;iterate 6 refine AX ?_
 refine .loopW (biY p tp H) (p.length) ⟨0,Nat.zero_le _,by simp[bdK],rfl,rfl,rfl⟩ sX (hRa _) ?_;rintro _ _ _ ⟨i,hi,hsm,rfl,rfl,rfl⟩;iterate 6 refine AX ?_
 refine .cx rfl (λhc20=>?_) (λhc20=>?_)
 ·have hsi:=hs _ (cF (show i<p.length by omega));have hnx:=baB (show i<p.length by omega);have hxx:(p[((i:Nat):Int).toNat]'aA).items.length=(p[i]'aA).items.length:=rfl;iterate 8 refine AX ?_
  refine .s rfl (adK V52 (zr52)) ?_;rintro _ _ ⟨b5,hb5,rfl,hH⟩;obtain rfl:=hH.symm;iterate 3 refine AX ?_
  refine .frz (t:=5) rfl (hb5) ?_;iterate 3 refine AX ?_
  refine .p rfl (zA U52 rfl Z50 (tm rfl)) ?_;iterate 12 refine AX ?_
  refine .cx rfl (λhc29=>?_) (λhc29=>?_)
  ·iterate 12 refine AX ?_
   have hge:=brC p (i+1);refine⟨?_,rfl⟩;unfold aeP;rw[aS (by rw[hnx]at hge;omega)];rfl
  iterate 8 refine AX ?_
  refine Round.mk ⟨i+1,by omega,by rw[hnx];omega,rfl,rfl,rfl⟩ (zK rfl (zR rfl (by rw[hnx];rfl) sX)) (hRa _) aA
 have hil:i=p.length:=by omega
 subst hil;rw[cX]at hsm;iterate 8 refine AX ?_
 refine .s rfl (zB call62 (evs1 rfl) (apY _ _ hs aA _)) ?_;rintro _ _ ⟨q,rfl,hq,hH⟩;obtain rfl:=hH.symm;iterate 6 refine AX ?_
 refine⟨?_,rfl⟩;unfold aeP;rw[aU (show 1≤p.length∧p.length≤4∧bdK p≤100 by omega),Bool.true_and,←hq];rfl
end
end Go.Proofs.YteedncdcbgplfaaGreatDoor
