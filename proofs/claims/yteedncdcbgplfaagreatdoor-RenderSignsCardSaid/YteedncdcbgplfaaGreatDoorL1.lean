import Derived.Test.YteedncdcbgplfaaGreatDoorK5
import Derived.Test.YteedncdcbgplfaaGreatDoorK3
set_option maxHeartbeats 1000000
namespace Go.Proofs.YteedncdcbgplfaaGreatDoor
open Go.Proofs.Tryz
open Go Go.RowKit
variable{l:List ItN}
section
set_option maxRecDepth 100000
def enL:Loc:=⟨[101,110],[46],[44],[44],[45],[37],[36],true,false,3⟩
theorem ajX:∀l∈locs,l.second=2∨l.second=3:=by decide
theorem mEn:enL∈locs:=by simp[locs,enL]
def bjL(p:List SecN):Bool:=p.all λs=>decide (s.items.length≤1000)
theorem bcJ{p:List SecN}(h:bjL p=true):∀s,s∈p→s.items.length≤1000:=λs hs=>of_decide_eq_true (cX.1 h s hs)
def abJ(s:List UInt8)(x:Nat)(w:List UInt8):Bool:=match apX s with
 |some p=>bjL p&&decide (yV enL p x=(w,0))
 |none=>false
def bfJ(s:List UInt8)(x:List UInt8)(w:List UInt8):Bool:=match apX s with
 |some p=>bjL p&&decide (aiM enL p x=(w,0))
 |none=>false
theorem bpK{s:List UInt8}{x:Nat}{w:List UInt8}(h:abJ s x w=true):∃p,apX s=some p∧(∀s,s∈p→s.items.length≤1000)∧yV enL p x=(w,0):=by
 unfold abJ at h;split at h
 ·rename_i p e
  rw[bD,aW]at h;exact⟨p,e,bcJ h.1,h.2⟩
 cases h
theorem bvB{s:List UInt8}{x:List UInt8}{w:List UInt8}(h:bfJ s x w=true):∃p,apX s=some p∧(∀s,s∈p→s.items.length≤1000)∧aiM enL p x=(w,0):=by
 unfold bfJ at h;split at h
 ·rename_i p e
  rw[bD,aW]at h;exact⟨p,e,bcJ h.1,h.2⟩
 cases h
set_option maxRecDepth 1000000 in
theorem hd0:abJ [48,46,48,48] 4607204936798154260 [49,46,48,48]=true:=by kernel_rfl
set_option maxRecDepth 1000000 in
theorem hd1:abJ [48,46,48,48] 13832806255468478464 [45,49,46,53,48]=true:=by kernel_rfl
set_option maxRecDepth 1000000 in
theorem hd2:abJ [48,46,48,48] 13785626545772145148 [48,46,48,48]=true:=by kernel_rfl
set_option maxRecDepth 1000000 in
theorem hd3:abJ [35,44,35,35,48,46,48,35] 4653144203864309760 [49,44,50,51,52,46,53]=true:=by kernel_rfl
set_option maxRecDepth 1000000 in
theorem hd4:abJ [35] 0 []=true:=by kernel_rfl
set_option maxRecDepth 1000000 in
theorem hd5:abJ [48,48,48,45,48,48] 4698053236609777664 [49,50,51,52,53,45,54,55]=true:=by kernel_rfl
set_option maxRecDepth 1000000 in
theorem hd6:abJ [48,37] 4593671619917905920 [49,51,37]=true:=by kernel_rfl
set_option maxRecDepth 1000000 in
theorem hd7:abJ [48,44,46,48] 4668012349850910720 [49,50,46,51]=true:=by kernel_rfl
set_option maxRecDepth 1000000 in
theorem hd8:abJ [35,44,35,35,48,59,40,35,44,35,35,48,41,59,34,45,34] 13876514041695830016 [40,49,44,50,51,52,41]=true:=by kernel_rfl
set_option maxRecDepth 1000000 in
theorem hd9:abJ [35,44,35,35,48,59,40,35,44,35,35,48,41,59,34,45,34] 0 [45]=true:=by kernel_rfl
set_option maxRecDepth 1000000 in
theorem hd10:abJ [48,46,48,48,69,43,48,48] 4668012349850910720 [49,46,50,51,69,43,48,52]=true:=by kernel_rfl
set_option maxRecDepth 1000000 in
theorem hd11:abJ [48,46,48,48,69,43,48,48] 0 [48,46,48,48,69,43,48,48]=true:=by kernel_rfl
set_option maxRecDepth 1000000 in
theorem hd12:abJ [35,35,48,46,48,69,43,48] 4668012349850910720 [49,50,46,51,69,43,51]=true:=by kernel_rfl
set_option maxRecDepth 1000000 in
theorem hd13:abJ [35,35,48,46,48,69,43,48] 4696836717187956736 [49,46,48,69,43,54]=true:=by kernel_rfl
set_option maxRecDepth 1000000 in
theorem hd14:abJ [48,69,45,48] 4602678819172646912 [53,69,45,49]=true:=by kernel_rfl
set_option maxRecDepth 1000000 in
theorem hd15:abJ [35,32,63,47,63] 4614500768194494464 [51,32,49,47,52]=true:=by kernel_rfl
set_option maxRecDepth 1000000 in
theorem hd16:abJ [35,32,63,47,63] 4613937818241073152 [51]=true:=by kernel_rfl
set_option maxRecDepth 1000000 in
theorem hd17:abJ [35,32,63,47,63] 4602678819172646912 [32,49,47,50]=true:=by kernel_rfl
set_option maxRecDepth 1000000 in
theorem hd18:abJ [63,47,63] 4614500768194494464 [49,51,47,52]=true:=by kernel_rfl
set_option maxRecDepth 1000000 in
theorem hd19:abJ [35,32,63,63,47,63,63] 4598175219545276416 [32,32,49,47,52]=true:=by kernel_rfl
set_option maxRecDepth 1000000 in
theorem hd20:abJ [36,71,101,110,101,114,97,108] 13840687554816376832 [45,36,53]=true:=by kernel_rfl
set_option maxRecDepth 1000000 in
theorem he0:bfJ [64,34,33,34] [97] [97,33]=true:=by kernel_rfl
set_option maxRecDepth 1000000 in
theorem he1:bfJ [48,59,48,59,48,59,34,60,34,64,34,62,34] [97] [60,97,62]=true:=by kernel_rfl
set_option maxRecDepth 1000000 in
theorem he2:bfJ [48] [97] [97]=true:=by kernel_rfl
theorem yX(s:List UInt8)(x:Nat)(hx:x<18446744073709551616)(w:List UInt8)(hw:abJ s x w=true):Fn 27 [.str s,.int .u64 (x:Int),.str w] (.bool true):=by
 intro H;obtain⟨p,hp,hs,hn⟩:=bpK hw;have kn:decide (w=w)=true:=aQ rfl;refine .of_body func27 rfl ntmps27 results27 rfl ?_;iterate 7 refine AX ?_
 refine .cl rfl call20 (.cons (zS rfl) .nil) (amB (l:=enL) mEn _) ?_;iterate 3 refine AX ?_
 refine .al zr32 (λb7 hb7=>?_);iterate 4 refine AX ?_
 refine .frz (t:=7) rfl (hb7) ?_;iterate 3 refine AX ?_
 refine .cl rfl call23 (evs1 rfl) (anD s p hp _) ?_;iterate 4 refine AX ?_
 refine .al zr24 (λb9 hb9=>?_);iterate 5 refine AX ?_
 refine .frz (t:=9) rfl (hb9) ?_;iterate 5 refine AX ?_
 refine .cl rfl C12 (evs3 rfl rfl rfl) (abC p _ hs x hx enL (ajK _ mEn) (ajX _ mEn) _) ?_;rw[hn];iterate 25 refine AX ?_
 exact⟨congrArg AV.bool (aQ rfl),rfl⟩
theorem alN(s:List UInt8)(x:List UInt8)(hx:x.length≤1000)(w:List UInt8)(hw:bfJ s x w=true):Fn 28 [.str s,.str x,.str w] (.bool true):=by
 intro H;obtain⟨p,hp,hs,hn⟩:=bvB hw;have kn:decide (w=w)=true:=aQ rfl;refine .of_body func28 rfl ntmps28 results28 rfl ?_;iterate 7 refine AX ?_
 refine .cl rfl call20 (.cons (zS rfl) .nil) (amB (l:=enL) mEn _) ?_;iterate 3 refine AX ?_
 refine .al zr32 (λb7 hb7=>?_);iterate 4 refine AX ?_
 refine .frz (t:=7) rfl (hb7) ?_;iterate 3 refine AX ?_
 refine .cl rfl call23 (evs1 rfl) (anD s p hp _) ?_;iterate 4 refine AX ?_
 refine .al zr24 (λb9 hb9=>?_);iterate 5 refine AX ?_
 refine .frz (t:=9) rfl (hb9) ?_;iterate 5 refine AX ?_
 refine .cl rfl call14 (evs3 rfl rfl rfl) (apK p _ hs x hx enL (ajK _ mEn) _) ?_;rw[hn];iterate 25 refine AX ?_
 exact⟨congrArg AV.bool (aQ rfl),rfl⟩
theorem acM:Fn 9 [] (.bool true):=by
 intro H;refine .of_body func9 rfl ntmps9 results9 rfl ?_;iterate 7 refine AX ?_
 refine .cl rfl C27 (.cons (zS rfl) (.cons zJ (.cons (zS rfl) .nil))) (yX _ 4607204936798154260 aC _ hd0 _) ?_;refine AX ?_;refine .gs rfl rfl rfl aD (zD C27 (.cons (zS rfl) (.cons zJ (.cons (zS rfl) .nil))) (yX _ 13832806255468478464 aC _ hd1 _)) ?_;rintro _ _ ⟨rfl,hH⟩;obtain rfl:=hH.symm;iterate 2 refine AX ?_
 refine .gs rfl rfl rfl aD (zD C27 (.cons (zS rfl) (.cons zJ (.cons (zS rfl) .nil))) (yX _ 13785626545772145148 aC _ hd2 _)) ?_;rintro _ _ ⟨rfl,hH⟩;obtain rfl:=hH.symm;iterate 2 refine AX ?_
 refine .gs rfl rfl rfl aD (zD C27 (.cons (zS rfl) (.cons zJ (.cons (zS rfl) .nil))) (yX _ 4653144203864309760 aC _ hd3 _)) ?_;rintro _ _ ⟨rfl,hH⟩;obtain rfl:=hH.symm;iterate 2 refine AX ?_
 refine .gs rfl rfl rfl aD (zD C27 (.cons (zS rfl) (.cons zJ (.cons (zS rfl) .nil))) (yX _ 0 aC _ hd4 _)) ?_;rintro _ _ ⟨rfl,hH⟩;obtain rfl:=hH.symm;iterate 2 refine AX ?_
 refine .gs rfl rfl rfl aD (zD C27 (.cons (zS rfl) (.cons zJ (.cons (zS rfl) .nil))) (yX _ 4698053236609777664 aC _ hd5 _)) ?_;rintro _ _ ⟨rfl,hH⟩;obtain rfl:=hH.symm;iterate 6 refine AX ?_
 refine .cl rfl C27 (.cons (zS rfl) (.cons zJ (.cons (zS rfl) .nil))) (yX _ 4593671619917905920 aC _ hd6 _) ?_;refine AX ?_;refine .gs rfl rfl rfl aD (zD C27 (.cons (zS rfl) (.cons zJ (.cons (zS rfl) .nil))) (yX _ 4668012349850910720 aC _ hd7 _)) ?_;rintro _ _ ⟨rfl,hH⟩;obtain rfl:=hH.symm;iterate 2 refine AX ?_
 refine .gs rfl rfl rfl aD (zD C27 (.cons (zS rfl) (.cons zJ (.cons (zS rfl) .nil))) (yX _ 13876514041695830016 aC _ hd8 _)) ?_;rintro _ _ ⟨rfl,hH⟩;obtain rfl:=hH.symm;iterate 2 refine AX ?_
 refine .gs rfl rfl rfl aD (zD C27 (.cons (zS rfl) (.cons zJ (.cons (zS rfl) .nil))) (yX _ 0 aC _ hd9 _)) ?_;rintro _ _ ⟨rfl,hH⟩;obtain rfl:=hH.symm;iterate 6 refine AX ?_
 refine .cl rfl C27 (.cons (zS rfl) (.cons zJ (.cons (zS rfl) .nil))) (yX _ 4668012349850910720 aC _ hd10 _) ?_;refine AX ?_;refine .gs rfl rfl rfl aD (zD C27 (.cons (zS rfl) (.cons zJ (.cons (zS rfl) .nil))) (yX _ 0 aC _ hd11 _)) ?_;rintro _ _ ⟨rfl,hH⟩;obtain rfl:=hH.symm;iterate 2 refine AX ?_
 refine .gs rfl rfl rfl aD (zD C27 (.cons (zS rfl) (.cons zJ (.cons (zS rfl) .nil))) (yX _ 4668012349850910720 aC _ hd12 _)) ?_;rintro _ _ ⟨rfl,hH⟩;obtain rfl:=hH.symm;iterate 2 refine AX ?_
 refine .gs rfl rfl rfl aD (zD C27 (.cons (zS rfl) (.cons zJ (.cons (zS rfl) .nil))) (yX _ 4696836717187956736 aC _ hd13 _)) ?_;rintro _ _ ⟨rfl,hH⟩;obtain rfl:=hH.symm;iterate 2 refine AX ?_
 refine .gs rfl rfl rfl aD (zD C27 (.cons (zS rfl) (.cons zJ (.cons (zS rfl) .nil))) (yX _ 4602678819172646912 aC _ hd14 _)) ?_;rintro _ _ ⟨rfl,hH⟩;obtain rfl:=hH.symm;iterate 6 refine AX ?_
 refine .cl rfl C27 (.cons (zS rfl) (.cons zJ (.cons (zS rfl) .nil))) (yX _ 4614500768194494464 aC _ hd15 _) ?_;refine AX ?_;refine .gs rfl rfl rfl aD (zD C27 (.cons (zS rfl) (.cons zJ (.cons (zS rfl) .nil))) (yX _ 4613937818241073152 aC _ hd16 _)) ?_;rintro _ _ ⟨rfl,hH⟩;obtain rfl:=hH.symm;iterate 2 refine AX ?_
 refine .gs rfl rfl rfl aD (zD C27 (.cons (zS rfl) (.cons zJ (.cons (zS rfl) .nil))) (yX _ 4602678819172646912 aC _ hd17 _)) ?_;rintro _ _ ⟨rfl,hH⟩;obtain rfl:=hH.symm;iterate 2 refine AX ?_
 refine .gs rfl rfl rfl aD (zD C27 (.cons (zS rfl) (.cons zJ (.cons (zS rfl) .nil))) (yX _ 4614500768194494464 aC _ hd18 _)) ?_;rintro _ _ ⟨rfl,hH⟩;obtain rfl:=hH.symm;iterate 2 refine AX ?_
 refine .gs rfl rfl rfl aD (zD C27 (.cons (zS rfl) (.cons zJ (.cons (zS rfl) .nil))) (yX _ 4598175219545276416 aC _ hd19 _)) ?_;rintro _ _ ⟨rfl,hH⟩;obtain rfl:=hH.symm;iterate 6 refine AX ?_
 refine .cl rfl C27 (.cons (zS rfl) (.cons zJ (.cons (zS rfl) .nil))) (yX _ 13840687554816376832 aC _ hd20 _) ?_;refine AX ?_;refine .gs rfl rfl rfl aD (zD call28 (.cons (zS rfl) (.cons (zS rfl) (.cons (zS rfl) .nil))) (alN _ _ aC _ he0 _)) ?_;rintro _ _ ⟨rfl,hH⟩;obtain rfl:=hH.symm;iterate 2 refine AX ?_
 refine .gs rfl rfl rfl aD (zD call28 (.cons (zS rfl) (.cons (zS rfl) (.cons (zS rfl) .nil))) (alN _ _ aC _ he1 _)) ?_;rintro _ _ ⟨rfl,hH⟩;obtain rfl:=hH.symm;iterate 2 refine AX ?_
 refine .gs rfl rfl rfl aD (zD call28 (.cons (zS rfl) (.cons (zS rfl) (.cons (zS rfl) .nil))) (alN _ _ aC _ he2 _)) ?_;rintro _ _ ⟨rfl,hH⟩;obtain rfl:=hH.symm;iterate 24 refine AX ?_
 exact⟨rfl,rfl⟩
end
section
open Go Go.RowKit
set_option maxRecDepth 100000
def okI(l:List ItN):Bool:=decide (l.length≤120)&&l.all λi=>decide (i.text.length≤100)
def okP(p:List SecN):Bool:=decide (p.length≤6)&&p.all λs=>okI s.items
def aoT(p:List SecN):AV:=if okP p=true then adV p .shared else .slice 3 [] .shared
theorem btS{p:List SecN}{s:SecN}(hs:s∈p)(h:okI s.items=false):okP p=false:=by
 unfold okP;rw[cA];exact .inr (List.all_eq_false.2 ⟨s,hs,by rw[h];simp⟩)
theorem bvR{p:List SecN}(h:6<p.length):okP p=false:=by unfold okP;rw[aP aA];rfl
theorem bvT(h:120<l.length):okI l=false:=by unfold okI;rw[aP aA];rfl
theorem byH{i:Nat}(hi:i<l.length)(h:100<l[i].text.length):okI l=false:=by
 unfold okI;rw[cA];exact .inr (List.all_eq_false.2 ⟨l[i],bM hi,by simpa using h⟩)
theorem bvS(h1:l.length≤120)(h2:∀q(h:q<l.length),l[q].text.length≤100):okI l=true:=by
 unfold okI;rw[aQ h1,Bool.true_and,cX];intro x hx;obtain⟨q,hq,rfl⟩:=cW hx;exact aQ (h2 q hq)
theorem bvQ{p:List SecN}(h1:p.length≤6)(h2:∀q(h:q<p.length),okI p[q].items=true):okP p=true:=by
 unfold okP;rw[aQ h1,Bool.true_and,cX];intro x hx;obtain⟨q,hq,rfl⟩:=cW hx;exact h2 q hq
theorem bpU(l:List SecN):∀x,x∈l.map SecN.av→x.row 3:=λx hx=>by
 obtain⟨i,_,rfl⟩:=eE.1 hx;exact⟨rfl,rfl⟩
theorem awE{α:Type}{l:List α}{i:Nat}(f:α→AV)(h:i<l.length):(l.take (i+1)).map f=(l.take i).map f++[f l[i]]:=by
 rw[List.take_succ_eq_append_getElem h,dP];rfl
theorem adT{p:List SecN}(h:okP p=true):∀s,s∈p→s.items.length≤1000:=by
 intro s hs;unfold okP at h;rw[bD,cX]at h;have h:=h.2 s hs;unfold okI at h;rw[bD,aW]at h;omega
theorem zr78:ZR 78 [.int .i64 0,.str []]:=ZRi V78
theorem pl78:PL 78 [(0,1),(1,1)]:=PLi U78
def bsQ(p:List SecN)(tp:Tail)(H:Heap):Nat→Env→Heap→Prop:=λk env H1=>∃(i t:Nat),i≤p.length∧(∀q(h:q<p.length),q<i→okI p[q].items=true)∧env=[(1,.iptr [adV p tp]),(4,.slice 3 ((p.take i).map SecN.av) (.own t)),(5,.int .i64 (i:Int))]∧H.le H1∧H1.toks t=true∧H.toks t=false∧k=p.length-i
def bsR(p:List SecN)(tp:Tail)(i t:Nat)(s:SecN)(H:Heap):Nat→Env→Heap→Prop:=λk env H1=>∃(j u:Nat),j≤s.items.length∧(∀q(h:q<s.items.length),q<j→s.items[q].text.length≤100)∧env=[(1,.iptr [adV p tp]),(4,.slice 3 ((p.take i).map SecN.av) (.own t)),(5,.int .i64 (i:Int)),(6,.iptr (s.cs .shared)),(7,itS (s.items.take j) (.own u)),(8,.int .i64 (j:Int))]∧H.le H1∧H1.toks u=true∧H.toks u=false∧k=s.items.length-j
theorem adM(p:List SecN)(tp:Tail)(H:Heap):ACall prog 10 [.agg [adV p tp]] H (λy H'=>y= .tuple [aoT p,.bool (okP p)]∧H'=H):=by
 have hle0:=hRa H;refine ACall.of_body func10 rfl ntmps10 results10 rfl ?_;iterate 3 refine AX ?_
 refine .p rfl (zE (acC (sz:=3) (tl:=.full))) ?_;iterate 6 refine AX ?_
 refine .p rfl (zA U24 rfl Z22 (tm rfl)) ?_;iterate 5 refine AX ?_
 refine AWP.cx rfl (λhc12=>?_) (λhc12=>?_)
 ·have hno:=bvR (p:=p) aA;iterate 2 refine AX ?_
  refine .p rfl (zE (acC (sz:=3) (tl:=.full))) ?_;iterate 5 refine AX ?_
  refine Ret.go (.cons (.weak _ _ _ rfl (.slice _ _ _)) (.cons (.tmp _ _ rfl) .nil)) _ (hle0) ?_;refine⟨?_,rfl⟩;unfold aoT;rw[hno,aM (λh=>by cases h)];rfl
 iterate 4 refine AX ?_
 refine .p rfl (zE (acC (sz:=3) (tl:=.full))) ?_;iterate 9 refine AX ?_
 refine AWP.tag (t:=4) rfl (λu4 hu4=>?_);have hfu4:=Heap.fresh_of hle0 hu4;have hleu4:=Heap.le_in hle0 u4;refine AWP.loopW (bsQ p tp H) (p.length) ⟨0,u4,Nat.zero_le _,λq h hq=>absurd hq (Nat.not_lt_zero _),rfl,hleu4,Heap.toks_live_same _ _,hfu4,rfl⟩ sX (hRa _) ?_;rintro _ _ H1 ⟨i,t,hi,hok,rfl,hle1,hlive,hfr,rfl⟩;iterate 4 refine AX ?_
 refine .p rfl (zA U24 rfl Z22 (tm rfl)) ?_;iterate 5 refine AX ?_
 refine AWP.cx rfl (λhc17=>?_) (λhc17=>?_)
 ·have hip:i<p.length:=by omega
  iterate 6 refine AX ?_
  refine .p rfl (zA U24 rfl Z22 (tm rfl)) ?_;iterate 4 refine AX ?_
  refine .s rfl (acH V52 (zr52)) ?_;rintro _ _ ⟨b6,hb6,rfl,hH⟩;obtain rfl:=hH.symm;iterate 3 refine AX ?_
  refine AWP.frz (t:=6) rfl (hb6) ?_;iterate 3 refine AX ?_
  refine .p rfl (zA U52 rfl Z50 (tm rfl)) ?_;iterate 5 refine AX ?_
  refine AWP.cx rfl (λhc28=>?_) (λhc28=>?_)
  ·have h9:120<(p[i].items.length:Int):=hc28;have hno:=btS (bM hip) (bvT aA);iterate 2 refine AX ?_
   refine .p rfl (zE (acC (sz:=3) (tl:=.full))) ?_;iterate 10 refine AX ?_
   refine Ret.go (.cons (.weak _ _ _ rfl (.slice _ _ _)) (.cons (.tmp _ _ rfl) .nil)) _ (hle1) ?_;refine⟨?_,rfl⟩;unfold aoT;rw[hno,aM (λh=>by cases h)];rfl
  have h120:(p[i].items.length:Int)≤120:=hc28;iterate 4 refine AX ?_
  refine .p rfl (zE (acC (sz:=2) (tl:=.full))) ?_;iterate 9 refine AX ?_
  have hle2:=hRa H1;refine AWP.tag (t:=7) rfl (λu7 hu7=>?_);have hfu7:=Heap.fresh_of hle2 hu7;have hleu7:=Heap.le_in hle2 u7;refine AWP.loopW (bsR p tp i t p[i] H1) (p[i].items.length) ⟨0,u7,Nat.zero_le _,λq h hq=>absurd hq (Nat.not_lt_zero _),rfl,hleu7,Heap.toks_live_same _ _,hfu7,rfl⟩ sX (hRa _) ?_;rintro _ _ H2 ⟨j,u,hj,hokj,rfl,hle3,hlive2,hfr2,rfl⟩;iterate 4 refine AX ?_
  refine .p rfl (zA U52 rfl Z50 (tm rfl)) ?_;iterate 5 refine AX ?_
  refine AWP.cx rfl (λhc33=>?_) (λhc33=>?_)
  ·have hjl:j<p[i].items.length:=by have h9:(j:Int)<p[i].items.length:=hc33;omega
   iterate 7 refine AX ?_
   refine .p rfl (zA U52 rfl Z50 (tm rfl)) ?_;iterate 3 refine AX ?_
   refine .p rfl (zA U57 rfl Z9 (tm rfl)) ?_;iterate 5 refine AX ?_
   refine AWP.cx rfl (λhc43=>?_) (λhc43=>?_)
   ·have h9:100<(p[i].items[j].text.length:Int):=hc43;have hno:=btS (bM hip) (byH hjl aA);iterate 2 refine AX ?_
    refine .p rfl (zE (acC (sz:=3) (tl:=.full))) ?_;iterate 15 refine AX ?_
    refine Ret.go (.cons (.weak _ _ _ rfl (.slice _ _ _)) (.cons (.tmp _ _ rfl) .nil)) _ (hle1.trans hle3) ?_;refine⟨?_,rfl⟩;unfold aoT;rw[hno,aM (λh=>by cases h)];rfl
   have h9:(p[i].items[j].text.length:Int)≤100:=hc43;have hok3:∀q(h:q<p[i].items.length),q<j+1→p[i].items[q].text.length≤100:=by
    intro q h hq;rcases bV q j with h1|h1
    ·exact hokj q h h1
    obtain rfl:q=j:=by omega
    omega
   iterate 2 refine AX ?_
   refine AWP.draw [(0,true),(1,true),(2,true),(3,true),(4,true),(5,true),(6,true),(7,true),(8,true),(9,true),(10,true),(11,true),(12,true),(13,true),(14,true),(15,false),(16,true)] rfl aE ?_;refine AX ?_;refine .p rfl rfl (zA U52 rfl Z50 (tm rfl)) ?_;iterate 3 refine AX ?_
   refine .p rfl rfl (zA U57 rfl Z3 (tm rfl)) ?_;refine AX ?_;refine .p rfl rfl (zA U52 rfl Z50 (tm rfl)) ?_;iterate 3 refine AX ?_
   refine .p rfl rfl (zA U57 rfl Z9 (tm rfl)) ?_;refine AX ?_;refine .p rfl rfl (qU zr78 pl78 (.cons (tm rfl) (.inl rfl) (.cons (tm rfl) (.inl rfl) .nil)) rfl) ?_;refine APlan.f rfl rfl (λ_=>yP U46 Z78 V78 rfl (tm rfl) (.inr ⟨_,rfl⟩) ⟨rfl,rfl⟩) ?_;refine .s rfl rfl (qW U46 U46 Z78 typeInfo78 V78 rfl aC (tm rfl) (tm rfl) (by exact .own _ hlive2) (by show(_+_)*24≤_;simp;try omega) (by repeat' (first|exact yD _|exact aaC|exact acS ⟨rfl,rfl⟩ aaC|exact qP (yD _)|exact qO (yD _)|refine aaE ?_ ?_ |exact baG _)) (by repeat' (first|exact yD _|exact aaC|exact acS ⟨rfl,rfl⟩ aaC|exact qP (yD _)|exact qO (yD _)|refine aaE ?_ ?_))) ?_;rintro _ _ ⟨t59,ht59,rfl,hH⟩;obtain rfl:=hH.symm;have hf59:=Heap.fresh_of hle3 ht59;have hle59:=Heap.le_in (Heap.le_out (t:=u) hle3 aB) t59;iterate 10 refine AX ?_
   refine Round.mk (J:=bsR p tp i t p[i] H1) ⟨j+1,t59,by omega,hok3,rfl,hle59,Heap.toks_live_same _ _,hf59,rfl⟩ (zF rfl (zF rfl (zF rfl (zF rfl (zU rfl (aaX (awE ItN.av hjl).symm) (zF rfl zW)))))) (hRa _) aA
  have hjl:j=p[i].items.length:=by have h9:(p[i].items.length:Int)≤j:=hc33;omega
  have hoks:=bvS aA (λq h=>hokj q h aA);have hok2:∀q(h:q<p.length),q<i+1→okI p[q].items=true:=by
   intro q h hq;rcases bV q i with h1|h1
   ·exact hok q h h1
   obtain rfl:q=i:=by omega
   exact hoks
  iterate 5 refine AX ?_
  have hle4:=hle1.trans hle3;refine AWP.weakv (itS (p[i].items.take j) .shared) (t:=7) rfl (.slice _ _ _) ?_;iterate 3 refine AX ?_
  refine .p rfl (zA U52 rfl Z4 (tm rfl)) ?_;refine AX ?_;refine .p rfl (zA U52 rfl Z3 (tm rfl)) ?_;refine AX ?_;refine .p rfl (qU zr48 pl48 (.cons (tm rfl) (.inl rfl) (.cons (tm rfl) (.inl rfl) (.cons (tm rfl) (.inl rfl) .nil))) rfl) (.e rfl (yP U27 Z48 V48 rfl (tm rfl) (.inr ⟨_,rfl⟩) ⟨rfl,rfl⟩) ?_);refine .s rfl (qW U27 U27 Z48 typeInfo48 V48 rfl aC (tm rfl) (tm rfl) (by exact .own _ (hle3.toks _ hlive)) (by show(_+_)*40≤_;simp;try omega) (by repeat' (first|exact yD _|exact aaC|exact acS ⟨rfl,rfl⟩ aaC|exact qP (yD _)|exact qO (yD _)|refine aaE ?_ ?_ |exact bpU _)) (by repeat' (first|exact yD _|exact aaC|exact acS ⟨rfl,rfl⟩ aaC|exact qP (yD _)|exact qO (yD _)|refine aaE ?_ ?_))) ?_;rintro _ _ ⟨t68,ht68,rfl,hH⟩;obtain rfl:=hH.symm;have hf68:=Heap.fresh_of hle4 ht68;have hle68:=Heap.le_in (Heap.le_out (t:=t) hle4 aB) t68;iterate 10 refine AX ?_
  refine Round.mk (J:=bsQ p tp H) ⟨i+1,t68,by omega,hok2,rfl,hle68,Heap.toks_live_same _ _,hf68,rfl⟩ (zF rfl (zU rfl (aaX (by rw[hjl,bY];exact(awE SecN.av hip).symm)) (zF rfl zW))) (hRa _) aA
 have hil:i=p.length:=by omega
 subst hil;rw[bY]at *;iterate 13 refine AX ?_
 refine Ret.go (.cons (.weak _ _ _ rfl (.slice _ _ _)) (.cons (.tmp _ _ rfl) .nil)) _ (hle1) ?_;have hyes:=bvQ aA (λq h=>hok q h h);refine⟨?_,rfl⟩;unfold aoT;rw[hyes,aN rfl];rfl
end
end Go.Proofs.YteedncdcbgplfaaGreatDoor
