import Derived.Test.YteedncdcbgplfaaGreatDoorJ6
set_option maxHeartbeats 1000000
namespace Go.Proofs.YteedncdcbgplfaaGreatDoor
open Go.Proofs.Tryz
open Go Go.RowKit
variable{i:Nat}{l:List ItN}{o:List (List UInt8)}
section
set_option maxRecDepth 100000
theorem zr186:ZR 186 [.slice 2 [] .full,.bool false,.int .i64 0,.str [],.str [],.str [],.str [],.str [],.str [],.str [],.bool false,.bool false,.int .i64 0,.slice 1 [] .full]:=ZRi zeroValue186
theorem pl186:PL 186 [(0,3),(3,10),(13,1)]:=PLi U186
def acW(l:List ItN)(gr:Bool)(sc:Int)(o:Loc)(b n:Nat):List AV:=[itS l .shared,.bool gr,.int .i64 sc]++(rL o).cells++[.mslice (some ⟨b,0,none⟩) n n]
def wdR(w:List (List UInt8)):AObj:=.box 9 (w.map AV.str)
def beM(o:Loc)(l:List ItN)(i:Nat):List (List UInt8):=((l.take i).map λx=>(abY o x).txt)++List.replicate (l.length-i) []
theorem bzA(o:Loc)(l:List ItN):beM o l 0=List.replicate l.length []:=by simp[beM]
theorem byZ(o:Loc)(l:List ItN):beM o l l.length=(l.map (abY o)).map Pc.txt:=by simp[beM]
theorem akZ(o:Loc)(l:List ItN)(h:i≤l.length):(beM o l i).length=l.length:=by simp[beM];omega
theorem aiL(o:Loc)(h:i<l.length){s:List UInt8}(hp:(abY o l[i]).txt=s):(beM o l i).set i s=beM o l (i+1):=by
 unfold beM;rw[show l.length-i=(l.length-(i+1))+1 by omega,eQ,←bP h,dP,bF];have e:((l.take i).map λx=>(abY o x).txt).length=i:=by simp;omega
 rw[List.set_append_right _ _ aA,e,Nat.sub_self];simp[hp]
theorem agG(o:Loc)(h:i<l.length)(hp:(abY o l[i]).txt=[]):beM o l (i+1)=beM o l i:=by
 rw[←aiL o h hp];refine cR aF λj h1 h2=>?_;rw[List.getElem_set];split
 ·rename_i q;subst q
  have e:(beM o l i)[i]?=some []:=by
   unfold beM;have el:((l.take i).map λx=>(abY o x).txt).length=i:=by rw[bQ,aU];omega
   rw[eG aA,el,Nat.sub_self,List.getElem?_replicate,aK]
  rw[aV h2]at e;exact(Option.some.inj e).symm
 rfl
def beT(l:List ItN)(k:Int)(s:List UInt8)(i:Nat)(o:List (List UInt8)):List (List UInt8):=o.mapIdx λj p=>if j<i∧aaU l j=k then s else p
theorem avP(l:List ItN)(k:Int)(s:List UInt8)(i:Nat)(o:List Pc):beT l k s i (o.map Pc.txt)=(avX l k s i o).map Pc.txt:=by
 unfold beT avX;refine cR aF λj h1 h2=>?_;rw[bZ,List.getElem_map,List.getElem_map,bZ];split<;>rfl
theorem bzB(l:List ItN)(k:Int)(s:List UInt8)(o:List (List UInt8)):beT l k s 0 o=o:=by
 unfold beT;refine cR aF λj h1 h2=>?_;rw[bZ,aJ]
theorem beS(l:List ItN)(k:Int)(s:List UInt8)(i:Nat)(o:List (List UInt8)):(beT l k s i o).length=o.length:=List.length_mapIdx
theorem beR{k:Int}{s:List UInt8}(h:¬aaU l i=k):beT l k s (i+1) o=beT l k s i o:=by
 unfold beT;refine cR aF λj h1 h2=>?_;rw[bZ,bZ];by_cases q:j=i
 ·subst q;rw[aM (λz=>h z.2),aJ]
 by_cases c:j<i∧aaU l j=k
 ·rw[aN ⟨by omega,c.2⟩,aN c]
 rw[aM (λz=>c ⟨by omega,z.2⟩),aM c]
theorem beQ{k:Int}{s:List UInt8}(h:aaU l i=k):(beT l k s i o).set i s=beT l k s (i+1) o:=by
 unfold beT;refine cR aF λj h1 h2=>?_;rw[List.getElem_set,bZ,bZ];by_cases q:i=j
 ·subst q;rw[aN rfl,aN ⟨by omega,h⟩]
 rw[aM q];by_cases c:j<i∧aaU l j=k
 ·rw[aN c,aN ⟨by omega,c.2⟩]
 rw[aM c,aM (λz=>c ⟨by omega,z.2⟩)]
theorem bnE(h:i<o.length):(o.take (i+1)).flatten=(o.take i).flatten++o.getD i []:=by
 rw[←bP h,List.flatten_append,aS,aV h];simp
theorem bwM(o:List (List UInt8))(i:Nat):(o.take i).flatten.length≤o.flatten.length:=by
 have:o.flatten=(o.take i).flatten++(o.drop i).flatten:=by rw[←List.flatten_append,cO]
 rw[this,aR];omega
def bcT(l:List ItN)(gr:Bool)(sc:Int)(o:Loc)(b n:Nat)(ws:List (List UInt8))(H:Heap):Nat→Env→Heap→Prop:=λk env H1=>∃i:Nat,i≤n∧env=[(0,.iptr (acW l gr sc o b n)),(3,.str (ws.take i).flatten),(4,.int .i64 (i:Int))]∧H=H1∧k=n-i
theorem ahH(l:List ItN)(gr:Bool)(sc:Int)(o:Loc)(b n:Nat)(ws:List (List UInt8))(hnn:ws.length=n)(hn:n≤100000)(ht:ws.flatten.length≤1000000000)(H:Heap)(hb:H.objs b=some (wdR ws)):ACall prog 51 [.iptr (acW l gr sc o b n)] H (λy H'=>y= .str ws.flatten∧H'=H):=by
 refine ACall.of_body func51 rfl ntmps51 results51 rfl ?_;iterate 17 refine AX ?_
 refine AWP.loopW (bcT l gr sc o b n ws H) (n) ⟨0,Nat.zero_le _,rfl,rfl,rfl⟩ sX (hRa _) ?_;rintro _ _ _ ⟨i,hi,rfl,rfl,rfl⟩;iterate 6 refine AX ?_
 refine .p rfl (zA U186 rfl Z184 (tm rfl)) ?_;iterate 5 refine AX ?_
 refine AWP.cond (tm rfl) (λhc11=>?_) (λhc11=>?_)
 ·try simp only[aL]at hc11
  iterate 8 refine AX ?_
  refine .p rfl (zA U186 rfl Z184 (tm rfl)) (.p rfl (zX G184 (tm rfl)) (.mv rfl rfl (.p rfl (yH U184 Z9 (tm rfl) (tm rfl) aA aA) (.e rfl (alJ AV.str [] i G9 (tm rfl) hb aA aA) ?_))));have hnx:=bnE (o:=ws) (i:=i) aA;have hle:=bwM ws (i+1);rw[hnx,aR]at hle;refine .p rfl (zQ (tm rfl) (tm rfl) (by exact abZ aA)) ?_;iterate 10 refine AX ?_
  refine Round.mk (J:=bcT l gr sc o b n ws H) ⟨i+1,by omega,rfl,rfl,rfl⟩ (zF rfl (zU rfl (by rw[hnx]) (zF rfl zW))) (hRa _) aA
 try simp only[aL]at hc11
 iterate 12 refine AX ?_
 refine Ret.go (.cons (.tmp _ _ rfl) .nil) _ (hRa _) ?_;have hil:i=ws.length:=by omega
 subst hil;rw[bY];exact⟨rfl,rfl⟩
def baF(l:List ItN)(gr:Bool)(sc:Int)(o:Loc)(b n:Nat)(ws:List (List UInt8))(k0:Int)(s:List UInt8)(H:Heap):Nat→Env→Heap→Prop:=λk env H1=>∃i:Nat,i≤l.length∧env=[(0,.iptr (acW l gr sc o b n)),(1,.int .i64 k0),(2,.str s),(6,.int .i64 (i:Int))]∧H1=H.set b (wdR (beT l k0 s i ws))∧k=l.length-i
theorem aiZ(l:List ItN)(gr:Bool)(sc:Int)(o:Loc)(b n:Nat)(ws:List (List UInt8))(hn:ws.length=l.length)(hnl:n=l.length)(hl:l.length≤100000)(k0:Int)(s:List UInt8)(H:Heap)(hb:H.objs b=some (wdR ws)):ACall prog 45 [.iptr (acW l gr sc o b n),.int .i64 k0,.str s] H (λ_ H'=>H'=H.set b (wdR (beT l k0 s l.length ws))):=by
 refine ACall.of_body func45 rfl ntmps45 results45 rfl ?_;iterate 6 refine AX ?_
 refine AWP.loopW (baF l gr sc o b n ws k0 s H) (l.length) ⟨0,Nat.zero_le _,rfl,by rw[bzB];exact(Heap.set_self hb).symm,rfl⟩ sX (hRa _) ?_;rintro _ _ _ ⟨i,hi,rfl,rfl,rfl⟩;iterate 6 refine AX ?_
 refine .p rfl (zA U186 rfl Z184 (tm rfl)) ?_;iterate 5 refine AX ?_
 refine AWP.cond (tm rfl) (λhc13=>?_) (λhc13=>?_)
 ·try simp only[aL]at hc13
  iterate 8 refine AX ?_
  refine .p rfl (zA U186 rfl Z48 (tm rfl)) (.p rfl (zA U48 rfl Z46 (tm rfl)) ?_);iterate 3 refine AX ?_
  refine .p rfl (zA U78 rfl Z3 (tm rfl)) ?_;iterate 5 refine AX ?_
  refine AWP.cond (tm rfl) (λhc26=>?_) (λhc26=>?_)
  ·try simp only[aL]at hc26
   iterate 3 refine AX ?_
   refine .p rfl (zA U186 rfl Z184 (tm rfl)) (.p rfl (zX G184 (tm rfl)) (.mv rfl rfl (.mv rfl rfl (.p rfl (yH U184 Z9 (tm rfl) (tm rfl) aA aA) (.e0 (yQ AV.str s i Z9 (tm rfl) (tm rfl) rfl rfl (oS _ _ _) aA (by rw[beS];omega)) ?_)))));rw[sS];iterate 9 refine AX ?_
   refine Round.mk (J:=baF l gr sc o b n ws k0 s H) ⟨i+1,by omega,rfl,by first|exact congrArg (λz=>H.set b (wdR z)) (beQ ((qB aA).trans hc26))|(rw[beR (i:=i) (λq=>hc26 ((qB (i:=i) aA).symm.trans q))]),rfl⟩ sX (hRa _) aA
  try simp only[aL]at hc26
  iterate 9 refine AX ?_
  refine Round.mk (J:=baF l gr sc o b n ws k0 s H) ⟨i+1,by omega,rfl,by first|exact congrArg (λz=>H.set b (wdR z)) (beQ ((qB aA).trans hc26))|(rw[beR (i:=i) (λq=>hc26 ((qB (i:=i) aA).symm.trans q))]),rfl⟩ sX (hRa _) aA
 try simp only[aL]at hc13
 iterate 4 refine AX ?_
 refine Ret.go' .nil _ (hRa _) ?_;have hil:i=l.length:=by omega
 subst hil;rfl
def apJ(l:List ItN)(gr:Bool)(sc:Int)(o:Loc)(b:Nat)(H:Heap):Nat→Env→Heap→Prop:=λk env H1=>∃i:Nat,i≤l.length∧env=[(2,.iptr [itS l .shared,.bool gr,.int .i64 sc]),(3,.iptr (rL o).cells),(5,.iptr (acW l gr sc o b l.length)),(6,.int .i64 (i:Int))]∧H1=H.set b (wdR (beM o l i))∧k=l.length-i
theorem asC(l:List ItN)(gr:Bool)(sc:Int)(o:Loc)(hl:l.length≤100000)(H:Heap):ACall prog 43 [.agg [itS l .shared,.bool gr,.int .i64 sc],rL o] H (λy H'=>∃b,y= .iptr (acW l gr sc o b l.length)∧H.objs b=none∧H'=H.set b (wdR ((l.map (abY o)).map Pc.txt))):=by
 refine ACall.of_body func43 rfl ntmps43 results43 rfl ?_;iterate 2 refine AX ?_
 refine .e rfl (qR (tm rfl) (.inr ⟨_,rfl⟩)) (.e rfl (qR (tm rfl) (.inr ⟨_,rfl⟩)) (.p rfl (zE aqK) ?_));iterate 3 refine AX ?_
 refine AWP.draw [(0,true),(1,true),(2,true),(3,true),(4,true),(5,false),(6,true),(7,true),(8,true)] rfl aE ?_;iterate 2 refine AX ?_
 refine .p rfl rfl (zA U48 rfl Z46 (tm rfl)) ?_;iterate 2 refine AX ?_
 refine .s rfl rfl (aoP (m:=l.length) U184 typeInfo9 Z9 zeroValue9 (tm rfl) (tm rfl) aC aA) ?_;rintro _ _ ⟨b,rfl,hb,hH⟩;obtain rfl:=hH.symm;refine .p rfl rfl (qU zr186 pl186 (.cons (tm rfl) (.inr ⟨_,rfl⟩) (.cons (tm rfl) (.inr ⟨_,rfl⟩) (.cons (tm rfl) (.inl rfl) .nil))) rfl) ?_;refine APlan.f rfl rfl (λ_=>qR (tm rfl) (.inr ⟨_,rfl⟩)) ?_;iterate 10 refine AX ?_
 refine AWP.loopW (apJ l gr sc o b H) (l.length) ⟨0,Nat.zero_le _,rfl,by rw[bzA];unfold wdR;rw[List.map_replicate],rfl⟩ sX (hRa _) ?_;rintro _ _ _ ⟨i,hi,rfl,rfl,rfl⟩;iterate 4 refine AX ?_
 refine .p rfl (zA U48 rfl Z46 (tm rfl)) ?_;iterate 5 refine AX ?_
 refine AWP.cond (tm rfl) (λhc19=>?_) (λhc19=>?_)
 ·try simp only[aL]at hc19
  iterate 6 refine AX ?_
  refine .p rfl (zA U48 rfl Z46 (tm rfl)) ?_;iterate 3 refine AX ?_
  refine .p rfl (zA U78 rfl Z3 (tm rfl)) ?_;iterate 10 refine AX ?_
  refine AWP.cond (tm rfl) (λhc28=>?_) (λhc28=>?_)
  ·try simp only[aL]at hc28
   refine AWP.draw [(0,true),(1,true),(2,true),(3,true),(4,true),(5,true),(6,true),(7,true),(8,true),(9,true),(10,true),(11,true),(12,false)] rfl aE ?_;iterate 2 refine AX ?_
   refine .p rfl rfl (zA U186 rfl Z184 (tm rfl)) ?_;iterate 2 refine AX ?_
   refine .p rfl rfl (zA U48 rfl Z46 (tm rfl)) ?_;iterate 2 refine AX ?_
   refine .p rfl rfl (agM U46 Z78 (tm rfl) (tm rfl) aA aA) (.p rfl rfl (zA U78 rfl Z9 (tm rfl)) (.p rfl rfl (zX G9 (tm rfl)) (.p rfl rfl (yH U184 Z9 (tm rfl) (tm rfl) aA aA) (.s0 rfl (yQ AV.str (l[i].text) i Z9 (tm rfl) (tm rfl) rfl rfl (oS _ _ _) aA (by rw[akZ o l hi];omega)) ?_))));rintro _ _ ⟨rfl,hH⟩;obtain rfl:=hH.symm;rw[sS];rw[aiL o (show i<l.length by omega) (by unfold abY;rw[aN (by exact hc28)];rfl)];iterate 10 refine AX ?_
   refine Round.mk (J:=apJ l gr sc o b H) ⟨i+1,by omega,rfl,by first|rfl|(rw[agG o (show i<l.length by omega) (by unfold abY;rw[aM (by exact hc28),aM (by exact hc42),aM (by exact hc52),aM (by exact hc62),aM (by exact hc72)];rfl)]),rfl⟩ sX (hRa _) aA
  try simp only[aL]at hc28
  iterate 6 refine AX ?_
  refine AWP.cond (tm rfl) (λhc42=>?_) (λhc42=>?_)
  ·try simp only[aL]at hc42
   refine AWP.draw [(0,true),(1,true),(2,true),(3,true),(4,true),(5,true),(6,true),(7,true),(8,false)] rfl aE ?_;iterate 2 refine AX ?_
   refine .p rfl rfl (zA U186 rfl Z184 (tm rfl)) ?_;refine AX ?_;refine .p rfl rfl (zB (tm rfl)) (.p rfl rfl (zA U34 rfl Z9 (tm rfl)) (.p rfl rfl (zX G9 (tm rfl)) (.p rfl rfl (yH U184 Z9 (tm rfl) (tm rfl) aA aA) (.s0 rfl (yQ AV.str (o.cur) i Z9 (tm rfl) (tm rfl) rfl rfl (oS _ _ _) aA (by rw[akZ o l hi];omega)) ?_))));rintro _ _ ⟨rfl,hH⟩;obtain rfl:=hH.symm;rw[sS];rw[aiL o (show i<l.length by omega) (by unfold abY;rw[aM (by exact hc28),aN (by exact hc42)];rfl)];iterate 10 refine AX ?_
   refine Round.mk (J:=apJ l gr sc o b H) ⟨i+1,by omega,rfl,by first|rfl|(rw[agG o (show i<l.length by omega) (by unfold abY;rw[aM (by exact hc28),aM (by exact hc42),aM (by exact hc52),aM (by exact hc62),aM (by exact hc72)];rfl)]),rfl⟩ sX (hRa _) aA
  try simp only[aL]at hc42
  iterate 6 refine AX ?_
  refine AWP.cond (tm rfl) (λhc52=>?_) (λhc52=>?_)
  ·try simp only[aL]at hc52
   refine AWP.draw [(0,true),(1,true),(2,true),(3,true),(4,true),(5,true),(6,true),(7,true),(8,false)] rfl aE ?_;iterate 2 refine AX ?_
   refine .p rfl rfl (zA U186 rfl Z184 (tm rfl)) ?_;refine AX ?_;refine .p rfl rfl (zB (tm rfl)) (.p rfl rfl (zA U34 rfl Z9 (tm rfl)) (.p rfl rfl (zX G9 (tm rfl)) (.p rfl rfl (yH U184 Z9 (tm rfl) (tm rfl) aA aA) (.s0 rfl (yQ AV.str (o.pct) i Z9 (tm rfl) (tm rfl) rfl rfl (oS _ _ _) aA (by rw[akZ o l hi];omega)) ?_))));rintro _ _ ⟨rfl,hH⟩;obtain rfl:=hH.symm;rw[sS];rw[aiL o (show i<l.length by omega) (by unfold abY;rw[aM (by exact hc28),aM (by exact hc42),aN (by exact hc52)];rfl)];iterate 10 refine AX ?_
   refine Round.mk (J:=apJ l gr sc o b H) ⟨i+1,by omega,rfl,by first|rfl|(rw[agG o (show i<l.length by omega) (by unfold abY;rw[aM (by exact hc28),aM (by exact hc42),aM (by exact hc52),aM (by exact hc62),aM (by exact hc72)];rfl)]),rfl⟩ sX (hRa _) aA
  try simp only[aL]at hc52
  iterate 6 refine AX ?_
  refine AWP.cond (tm rfl) (λhc62=>?_) (λhc62=>?_)
  ·try simp only[aL]at hc62
   refine AWP.draw [(0,true),(1,true),(2,true),(3,true),(4,true),(5,true),(6,true),(7,true),(8,false)] rfl aE ?_;iterate 2 refine AX ?_
   refine .p rfl rfl (zA U186 rfl Z184 (tm rfl)) ?_;refine AX ?_;refine .p rfl rfl (zB (tm rfl)) (.p rfl rfl (zA U34 rfl Z9 (tm rfl)) (.p rfl rfl (zX G9 (tm rfl)) (.p rfl rfl (yH U184 Z9 (tm rfl) (tm rfl) aA aA) (.s0 rfl (yQ AV.str (o.dc) i Z9 (tm rfl) (tm rfl) rfl rfl (oS _ _ _) aA (by rw[akZ o l hi];omega)) ?_))));rintro _ _ ⟨rfl,hH⟩;obtain rfl:=hH.symm;rw[sS];rw[aiL o (show i<l.length by omega) (by unfold abY;rw[aM (by exact hc28),aM (by exact hc42),aM (by exact hc52),aN (by exact hc62)];rfl)];iterate 10 refine AX ?_
   refine Round.mk (J:=apJ l gr sc o b H) ⟨i+1,by omega,rfl,by first|rfl|(rw[agG o (show i<l.length by omega) (by unfold abY;rw[aM (by exact hc28),aM (by exact hc42),aM (by exact hc52),aM (by exact hc62),aM (by exact hc72)];rfl)]),rfl⟩ sX (hRa _) aA
  try simp only[aL]at hc62
  iterate 6 refine AX ?_
  refine AWP.cond (tm rfl) (λhc72=>?_) (λhc72=>?_)
  ·try simp only[aL]at hc72
   iterate 3 refine AX ?_
   refine .p rfl (zA U186 rfl Z184 (tm rfl)) (.p rfl (zX G184 (tm rfl)) (.mv rfl rfl (.p rfl (yH U184 Z9 (tm rfl) (tm rfl) aA aA) (.e0 (yQ AV.str ([47]) i Z9 (tm rfl) (zS rfl) rfl rfl (oS _ _ _) aA (by rw[akZ o l hi];omega)) ?_))));rw[sS];rw[aiL o (show i<l.length by omega) (by unfold abY;rw[aM (by exact hc28),aM (by exact hc42),aM (by exact hc52),aM (by exact hc62),aN (by exact hc72)];rfl)];iterate 10 refine AX ?_
   refine Round.mk (J:=apJ l gr sc o b H) ⟨i+1,by omega,rfl,by first|rfl|(rw[agG o (show i<l.length by omega) (by unfold abY;rw[aM (by exact hc28),aM (by exact hc42),aM (by exact hc52),aM (by exact hc62),aM (by exact hc72)];rfl)]),rfl⟩ sX (hRa _) aA
  try simp only[aL]at hc72
  iterate 10 refine AX ?_
  refine Round.mk (J:=apJ l gr sc o b H) ⟨i+1,by omega,rfl,by first|rfl|(rw[agG o (show i<l.length by omega) (by unfold abY;rw[aM (by exact hc28),aM (by exact hc42),aM (by exact hc52),aM (by exact hc62),aM (by exact hc72)];rfl)]),rfl⟩ sX (hRa _) aA
 try simp only[aL]at hc19
 iterate 12 refine AX ?_
 refine Ret.go (.cons (.tmp _ _ rfl) .nil) _ (hRa _) ?_;have hil:i=l.length:=by omega
 subst hil;exact⟨b,rfl,hb,by rw[byZ]⟩
theorem bfH(o:Loc)(s:SecN)(x:List UInt8):(beT s.items 8 x s.items.length ((s.items.map (abY o)).map Pc.txt)).flatten=bjQ o s x:=by
 rw[avP];rfl
theorem bpB(o:Loc){p:List SecN}(x:List UInt8)(h:aaN p=true)(k:Int)(hk:zY (ahS p)=k):aiM o p x=if p.length=4∨(p.length=1∧k=6)then(bjQ o (ahS p) x,0)else(x,0):=by
 have hl:=aeJ h;unfold aiM;rw[aM (by rw[h];simp),hk];by_cases q:p.length<4∧(1<p.length∨k≠6)
 ·rw[aN q,aJ]
 rw[aM q,aK]
theorem awT(p:List SecN)(tp:Tail)(hs:∀s,s∈p→s.items.length≤1000)(x:List UInt8)(hx:x.length≤1000)(o:Loc)(ho:o.ok)(H:Heap):ACall prog 15 [adV p tp,.str x,rL o] H (λy H'=>y= .tuple [.str (aiM o p x).1,.int .i64 (aiM o p x).2]∧H'=H):=by
 refine ACall.of_body func15 rfl ntmps15 results15 rfl ?_;iterate 10 refine AX ?_
 refine .cl rfl C18 (evs1 rfl) (aeA _ _ hs _) ?_;iterate 10 refine AX ?_
 refine AWP.cx rfl (λhc13=>?_) (λhc13=>?_)
 ·iterate 9 refine AX ?_
  refine⟨?_,rfl⟩;unfold aiM;rw[aN hc13];rfl
 have hr:aaN p=true:=by simpa using hc13
 obtain⟨hp1,hp4⟩:=aeJ hr;obtain⟨hl1,hl2,hl3⟩:=ahI hr (beA aA);have hla:p[(((p.length:Nat):Int)-1).toNat]'aA=ahS p:=by
  unfold ahS;rw[adX (show p.length-1<p.length by omega)];congr 1;omega
 have hl0:p.length=1→p[(Int.toNat 0)]'aA=ahS p:=λq=>by
  unfold ahS;rw[adX (show p.length-1<p.length by omega)];congr 1;omega
 have hle:=λh1 h2=>bcM ho (s:=ahS p) (x:=x) h1 h2 hx;have hfl:=bfH o (ahS p) x;have hte:=λk hk=>bpB o x hr k hk;generalize ahS p=z at *;obtain⟨l,gr,sc⟩:=z;have hle:=hle hl1 hl2;rw[←hfl]at hle;have hl1:l.length≤100:=hl1;generalize hkk:zY (SecN.mk l gr sc)=kk at *;have hte:=hte _ rfl;have hsh:∀(q:p.length=1)(H:Heap),ACall prog 16 [AV.agg (List.take 3 (SecN.av (p[(Int.toNat 0)]'aA)).cells)] H (λy H'=>y= .int .i64 kk∧H'=H):=λq H=>by
  rw[hl0 q,←hkk];exact afK l gr sc _ aA H
 have hbg:∀H:Heap,ACall prog 43 [AV.agg (List.take 3 (SecN.av (p[(((p.length:Nat):Int)-1).toNat]'aA)).cells),rL o] H (λy H'=>∃b,y= .iptr (acW l gr sc o b l.length)∧H.objs b=none∧H'=H.set b (wdR ((l.map (abY o)).map Pc.txt))):=λH=>by
  rw[hla];exact asC l gr sc o aA H
 iterate 3 refine AX ?_
 refine AWP.seqTo 28 (.bool (decide (p.length=4∨(p.length=1∧kk=6)))) [0,1,5,6,7] ?_ ?_
 ·iterate 5 refine AX ?_
  refine zC (t:=17) rfl (λhg17=>?_) (λhg17=>?_)
  ·have hh17:=hg17;try simp only[aL]at hh17
   iterate 12 refine AX ?_
   exact⟨rfl,zO rfl (by(refine Eq.symm ?_;first|((with_reducible refine aO.2 ?_);(first|omega|simp[*]))|((with_reducible refine aQ ?_);(first|omega|simp[*]))|((with_reducible refine aP ?_);(first|omega|simp[*])))) sX,rfl⟩
  have hh17:=hg17;try simp only[aL]at hh17
  iterate 4 refine AX ?_
  refine zC (t:=21) rfl (λhg21=>?_) (λhg21=>?_)
  ·have hh21:=hg21;try simp only[aL]at hh21
   iterate 3 refine AX ?_
   refine .gs rfl rfl rfl aB (zD C16 (evs1 rfl) (hsh aA _)) ?_;rintro _ _ ⟨rfl,hH⟩;obtain rfl:=hH.symm;iterate 4 refine AX ?_
   exact⟨rfl,zO rfl (by(refine Eq.symm ?_;first|((with_reducible refine aO.2 ?_);(first|omega|simp[*]))|((with_reducible refine aQ ?_);(first|omega|simp[*]))|((with_reducible refine aP ?_);(first|omega|simp[*])))) sX,rfl⟩
  have hh21:=hg21;try simp only[aL]at hh21
  iterate 8 refine AX ?_
  exact⟨rfl,zO rfl (by(refine Eq.symm ?_;first|((with_reducible refine aO.2 ?_);(first|omega|simp[*]))|((with_reducible refine aQ ?_);(first|omega|simp[*]))|((with_reducible refine aP ?_);(first|omega|simp[*])))) sX,rfl⟩
 refine AWP.sub [(28,_),(0,_),(1,_),(5,_),(6,_),(7,_)] sX ?_;refine AWP.cx rfl (λhc28=>?_) (λhc28=>?_)
 ·refine AX ?_;refine AWP.draw [(0,true),(1,true),(2,true),(3,true),(4,true),(5,true),(6,true),(7,false),(8,true)] rfl aE ?_;iterate 7 refine AX ?_
  refine .s rfl rfl (zD call43 (evs2 rfl rfl) (hbg _)) ?_;rintro _ _ ⟨b,rfl,hb,rfl⟩;iterate 7 refine AX ?_
  refine .s rfl (zD call45 (.cons (tm rfl) (.cons zJ (evs1 rfl))) (aiZ l gr sc o b l.length ((l.map (abY o)).map Pc.txt) aF rfl aA 8 x _ (oS _ _ _))) ?_;rintro _ _ rfl;rw[sS];iterate 5 refine AX ?_
  refine .cl rfl call51 (evs1 rfl) (ahH l gr sc o b l.length _ (by rw[beS];simp) aA hle _ (oS _ _ _)) ?_;iterate 6 refine AX ?_
  refine Ret.go (.cons (.tmp _ _ rfl) (.cons (.tmp _ _ rfl) .nil)) H (Heap.le_set hb _) ?_;refine⟨?_,rfl⟩;rw[hte,aN hc28,←hfl];rfl
 iterate 11 refine AX ?_
 refine⟨?_,rfl⟩;rw[hte,aM hc28];rfl
end
section
open Go Go.RowKit
set_option maxRecDepth 100000
def biR(i:Nat):AV:=.int .i64 (i:Int)
def abB(a:List Nat)(tl:Tail):AV:=.slice 1 (a.map biR) tl
theorem auB(a:List Nat):∀x,x∈a.map biR→x.row 1:=λx hx=>by
 obtain⟨i,_,rfl⟩:=eE.1 hx;exact⟨rfl,rfl⟩
theorem bgS(x:ItN)(ks:List Int)(tl:Tail)(hl:ks.length≤1000):Fn 173 [x.av,.iptr [.slice 1 (ks.map (.int .i64)) tl]] (.bool (decide (x.kind∈ks))):=by
 intro H;refine .of_body func173 rfl ntmps173 results173 rfl ?_;iterate 9 refine AX ?_
 refine .p rfl (zA U57 rfl Z3 (tm rfl)) ?_;refine AX ?_;refine .cl rfl call174 (evs2 rfl rfl) (arX _ _ _ aB _) ?_;iterate 5 refine AX ?_
 exact⟨rfl,rfl⟩
theorem afJ(l:List ItN)(gr:Bool)(sc:Int)(o:Loc)(b n:Nat)(hl:l.length≤100000)(ks:List Int)(tk:Tail)(hk:ks.length≤1000):Fn 94 [.iptr (shC l gr sc o b n),.slice 1 (ks.map (.int .i64)) tk] (.int .i64 (yC l ks:Int)):=by
 intro H;have hcl:yC l ks≤l.length:=List.findIdx_le_length;refine .of_body func94 rfl ntmps94 results94 rfl ?_;iterate 10 refine AX ?_
 refine .p rfl (zA U89 rfl Z52 (tm rfl)) (.p rfl (zA U52 rfl Z50 (tm rfl)) ?_);iterate 2 refine AX ?_
 refine .cl rfl call172 (evs2 rfl rfl) (asY l .shared hl _ _ (λx=>decide (x.kind∈ks)) _ call173 (λx=>bgS x ks tk hk _)) ?_;rw[show l.findIdx (λx=>decide (x.kind∈ks))=yC l ks from rfl];generalize hq:(if yC l ks=l.length then(-1:Int)else((yC l ks:Nat):Int))=q;have hq1:(q<0→yC l ks=l.length)∧(¬q<0→q=(yC l ks:Nat)):=by rw[←hq];split<;>omega
 iterate 10 refine AX ?_
 refine .cx rfl (λhc14=>?_) (λhc14=>?_)
 ·iterate 4 refine AX ?_
  refine .p rfl (zA U89 rfl Z52 (tm rfl)) (.p rfl (zA U52 rfl Z50 (tm rfl)) ?_);iterate 8 refine AX ?_
  rw[hq1.1 hc14];exact⟨rfl,rfl⟩
 iterate 10 refine AX ?_
 rw[←hq1.2 aA];exact⟨rfl,rfl⟩
def baO(l:List ItN)(gr:Bool)(sc:Int)(o:Loc)(b n:Nat)(a e:Nat)(H:Heap):Nat→Env→Heap→Prop:=λk env H1=>∃(i t:Nat),a≤i∧i≤e∧env=[(0,.iptr (shC l gr sc o b n)),(2,.int .i64 (e:Int)),(7,abB (acN l a i) (.own t)),(8,.int .i64 (i:Int))]∧H.le H1∧H1.toks t=true∧H.toks t=false∧k=e-i
theorem acZ(l:List ItN)(gr:Bool)(sc:Int)(o:Loc)(b n:Nat)(hl:l.length≤100000)(a e:Nat)(hae:a≤e)(hel:e≤l.length)(H:Heap):ACall prog 95 [.iptr (shC l gr sc o b n),.int .i64 (a:Int),.int .i64 (e:Int)] H (λy H'=>y=abB (acN l a e) .shared∧H'=H):=by
 have hle0:=hRa H;refine ACall.of_body func95 rfl ntmps95 results95 rfl ?_;iterate 18 refine AX ?_
 refine AWP.tag (t:=7) rfl (λu7 hu7=>?_);have hfu7:=Heap.fresh_of hle0 hu7;have hleu7:=Heap.le_in hle0 u7;refine AWP.loopW (baO l gr sc o b n a e H) (e-a) ⟨a,u7,bB _,hae,rfl,hleu7,Heap.toks_live_same _ _,hfu7,rfl⟩ (zF rfl (zF rfl (zU rfl (aaX (by rw[bnK];rfl)) (zF rfl zW)))) (hRa _) ?_;rintro _ _ H1 ⟨i,t,hai,hie,rfl,hle1,hlive,hfr,rfl⟩;iterate 8 refine AX ?_
 refine AWP.cx rfl (λhc12=>?_) (λhc12=>?_)
 ·iterate 8 refine AX ?_
  refine .p rfl (zA U89 rfl Z52 (tm rfl)) (.p rfl (zA U52 rfl Z50 (tm rfl)) ?_);iterate 3 refine AX ?_
  refine .p rfl (zA U57 rfl Z3 (tm rfl)) ?_;iterate 4 refine AX ?_
  refine AWP.cx rfl (λhc24=>?_) (λhc24=>?_)
  ·iterate 3 refine AX ?_
   refine .e rfl (yP U30 Z3 V3 rfl (tm rfl) (.inl rfl) ⟨rfl,rfl⟩) ?_;refine .s rfl (qW U30 U30 Z3 typeInfo3 V3 rfl aC (tm rfl) (tm rfl) (by exact .own _ hlive) (by show(_+_)*8≤_;simp only[bQ,aX,aY];have:=abA l a i;omega) (by repeat' (first|exact yD _|exact aaC|exact acS ⟨rfl,rfl⟩ aaC|exact qP (yD _)|exact qO (yD _)|refine aaE ?_ ?_ |exact auB _)) (by repeat' (first|exact yD _|exact aaC|exact acS ⟨rfl,rfl⟩ aaC|exact qP (yD _)|exact qO (yD _)|refine aaE ?_ ?_))) ?_;rintro _ _ ⟨t28,ht28,rfl,hH⟩;obtain rfl:=hH.symm;have hf28:=Heap.fresh_of hle1 ht28;have hle28:=Heap.le_in (Heap.le_out (t:=t) hle1 aB) t28;iterate 10 refine AX ?_
   refine Round.mk (J:=baO l gr sc o b n a e H) ⟨i+1,t28,by omega,by omega,rfl,hle28,Heap.toks_live_same _ _,hf28,rfl⟩ (zF rfl (zF rfl (zU rfl (aaX (by rw[atE l hai,aN ((qB (i:=i) aA).trans hc24),dP];rfl)) (zF rfl zW)))) (hRa _) aA
  iterate 9 refine AX ?_
  refine Round.mk (J:=baO l gr sc o b n a e H) ⟨i+1,t,by omega,by omega,rfl,hle1,hlive,hfr,rfl⟩ (zF rfl (zF rfl (zU rfl (aaX (by rw[atE l hai,aM (λq=>hc24 ((qB (i:=i) aA).symm.trans q)),bJ])) (zF rfl zW)))) (hRa _) aA
 iterate 6 refine AX ?_
 have hie:i=e:=by omega
 subst hie;refine AWP.weakv (abB (acN l a i) .shared) (t:=7) rfl (.slice _ _ _) ?_;iterate 6 refine AX ?_
 refine Ret.go (.cons (.tmp _ _ rfl) .nil) _ (hle1) ?_;exact⟨rfl,rfl⟩
end
end Go.Proofs.YteedncdcbgplfaaGreatDoor
