import Derived.Test.YteedncdcbgplfaaGreatDoorJ6
set_option maxHeartbeats 1000000
namespace Go.Proofs.YteedncdcbgplfaaGreatDoor
open Go.Proofs.Tryz
open Go Go.RowKit
variable{i:Nat}{l:List ItN}{o:List (List UInt8)}
section
set_option maxRecDepth 100000
theorem zr186:ZR 186 [.slice 2 [] .full,.bool false,.int .i64 0,.str [],.str [],.str [],.str [],.str [],.str [],.str [],.bool false,.bool false,.int .i64 0,.slice 1 [] .full]:=ZRi zeroValue186
theorem pl186:PL 186 [(0,3),(3,10),(13,1)]:=PLi U186
def bkY(l:List ItN)(gr:Bool)(sc:Int)(o:Loc)(b n:Nat):List AV:=[itS l .shared,.bool gr,.int .i64 sc]++(rL o).cells++[.mslice (some ⟨b,0,none⟩) n n]
def wdR(w:List (List UInt8)):AObj:=.box 9 (w.map AV.str)
def awX(o:Loc)(l:List ItN)(i:Nat):List (List UInt8):=((l.take i).map λx=>(acV o x).txt)++List.replicate (l.length-i) []
theorem boM(o:Loc)(l:List ItN):awX o l 0=List.replicate l.length []:=by simp[awX]
theorem boL(o:Loc)(l:List ItN):awX o l l.length=(l.map (acV o)).map Pc.txt:=by simp[awX]
theorem ahZ(o:Loc)(l:List ItN)(h:i≤l.length):(awX o l i).length=l.length:=by simp[awX];omega
theorem afY(o:Loc)(h:i<l.length){s:List UInt8}(hp:(acV o l[i]).txt=s):(awX o l i).set i s=awX o l (i+1):=by
 unfold awX;rw[show l.length-i=(l.length-(i+1))+1 by omega,eI,←bN h,eA,bE];have e:((l.take i).map λx=>(acV o x).txt).length=i:=by simp;omega
 rw[List.set_append_right _ _ aA,e,Nat.sub_self];simp[hp]
theorem adZ(o:Loc)(h:i<l.length)(hp:(acV o l[i]).txt=[]):awX o l (i+1)=awX o l i:=by
 rw[←afY o h hp];refine cW aF λj h1 h2=>?_;rw[List.getElem_set];split
 ·rename_i q;subst q
  have e:(awX o l i)[i]?=some []:=by
   unfold awX;have el:((l.take i).map λx=>(acV o x).txt).length=i:=by rw[bR,aU];omega
   rw[dH aA,el,Nat.sub_self,List.getElem?_replicate,aJ]
  rw[aR h2]at e;exact(Option.some.inj e).symm
 rfl
def axD(l:List ItN)(k:Int)(s:List UInt8)(i:Nat)(o:List (List UInt8)):List (List UInt8):=o.mapIdx λj p=>if j<i∧aaJ l j=k then s else p
theorem biG(l:List ItN)(k:Int)(s:List UInt8)(i:Nat)(o:List Pc):axD l k s i (o.map Pc.txt)=(apZ l k s i o).map Pc.txt:=by
 unfold axD apZ;refine cW aF λj h1 h2=>?_;rw[bP,List.getElem_map,List.getElem_map,bP];split<;>rfl
theorem boN(l:List ItN)(k:Int)(s:List UInt8)(o:List (List UInt8)):axD l k s 0 o=o:=by
 unfold axD;refine cW aF λj h1 h2=>?_;rw[bP,aI]
theorem axC(l:List ItN)(k:Int)(s:List UInt8)(i:Nat)(o:List (List UInt8)):(axD l k s i o).length=o.length:=List.length_mapIdx
theorem axB{k:Int}{s:List UInt8}(h:¬aaJ l i=k):axD l k s (i+1) o=axD l k s i o:=by
 unfold axD;refine cW aF λj h1 h2=>?_;rw[bP,bP];by_cases q:j=i
 ·subst q;rw[aL (λz=>h z.2),aI]
 by_cases c:j<i∧aaJ l j=k
 ·rw[aM ⟨by omega,c.2⟩,aM c]
 rw[aL (λz=>c ⟨by omega,z.2⟩),aL c]
theorem axA{k:Int}{s:List UInt8}(h:aaJ l i=k):(axD l k s i o).set i s=axD l k s (i+1) o:=by
 unfold axD;refine cW aF λj h1 h2=>?_;rw[List.getElem_set,bP,bP];by_cases q:i=j
 ·subst q;rw[aM rfl,aM ⟨by omega,h⟩]
 rw[aL q];by_cases c:j<i∧aaJ l j=k
 ·rw[aM c,aM ⟨by omega,c.2⟩]
 rw[aL c,aL (λz=>c ⟨by omega,z.2⟩)]
theorem beF(h:i<o.length):(o.take (i+1)).flatten=(o.take i).flatten++o.getD i []:=by
 rw[←bN h,List.flatten_append,aS,aR h];simp
theorem bmD(o:List (List UInt8))(i:Nat):(o.take i).flatten.length≤o.flatten.length:=by
 have:o.flatten=(o.take i).flatten++(o.drop i).flatten:=by rw[←List.flatten_append,cE]
 rw[this,aQ];omega
def avZ(l:List ItN)(gr:Bool)(sc:Int)(o:Loc)(b n:Nat)(ws:List (List UInt8))(H:Heap):Nat→Env→Heap→Prop:=λk env H1=>∃i:Nat,i≤n∧env=[(0,.iptr (bkY l gr sc o b n)),(3,.str (ws.take i).flatten),(4,.int .i64 (i:Int))]∧H=H1∧k=n-i
theorem aqR(l:List ItN)(gr:Bool)(sc:Int)(o:Loc)(b n:Nat)(ws:List (List UInt8))(hnn:ws.length=n)(hn:n≤100000)(ht:ws.flatten.length≤1000000000)(H:Heap)(hb:H.objs b=some (wdR ws)):ACall prog 51 [.iptr (bkY l gr sc o b n)] H (λy H'=>y= .str ws.flatten∧H'=H):=by
 refine ACall.of_body func51 rfl ntmps51 results51 rfl ?_;iterate 17 refine AX ?_
 refine AWP.loopW (avZ l gr sc o b n ws H) (n) ⟨0,Nat.zero_le _,rfl,rfl,rfl⟩ sX (hRa _) ?_;rintro _ _ _ ⟨i,hi,rfl,rfl,rfl⟩;iterate 6 refine AX ?_
 refine .p rfl (zA U186 rfl Z184 (tm rfl)) ?_;iterate 5 refine AX ?_
 refine AWP.cond (tm rfl) (λhc11=>?_) (λhc11=>?_)
 ·try simp only[aK]at hc11
  iterate 8 refine AX ?_
  refine .p rfl (zA U186 rfl Z184 (tm rfl)) (.p rfl (zV G184 (tm rfl)) (.mv rfl rfl (.p rfl (yH U184 Z9 (tm rfl) (tm rfl) aA aA) (.e rfl (amY AV.str [] i G9 (tm rfl) hb aA aA) ?_))));have hnx:=beF (o:=ws) (i:=i) aA;have hle:=bmD ws (i+1);rw[hnx,aQ]at hle;refine .p rfl (zU (tm rfl) (tm rfl) (by exact abH aA)) ?_;iterate 10 refine AX ?_
  refine Round.mk (J:=avZ l gr sc o b n ws H) ⟨i+1,by omega,rfl,rfl,rfl⟩ (zJ rfl (yD rfl (by rw[hnx]) (zJ rfl yF))) (hRa _) aA
 try simp only[aK]at hc11
 iterate 12 refine AX ?_
 refine Ret.go (.cons (.tmp _ _ rfl) .nil) _ (hRa _) ?_;have hil:i=ws.length:=by omega
 subst hil;rw[bS];exact⟨rfl,rfl⟩
def atL(l:List ItN)(gr:Bool)(sc:Int)(o:Loc)(b n:Nat)(ws:List (List UInt8))(k0:Int)(s:List UInt8)(H:Heap):Nat→Env→Heap→Prop:=λk env H1=>∃i:Nat,i≤l.length∧env=[(0,.iptr (bkY l gr sc o b n)),(1,.int .i64 k0),(2,.str s),(6,.int .i64 (i:Int))]∧H1=H.set b (wdR (axD l k0 s i ws))∧k=l.length-i
theorem atJ(l:List ItN)(gr:Bool)(sc:Int)(o:Loc)(b n:Nat)(ws:List (List UInt8))(hn:ws.length=l.length)(hnl:n=l.length)(hl:l.length≤100000)(k0:Int)(s:List UInt8)(H:Heap)(hb:H.objs b=some (wdR ws)):ACall prog 45 [.iptr (bkY l gr sc o b n),.int .i64 k0,.str s] H (λ_ H'=>H'=H.set b (wdR (axD l k0 s l.length ws))):=by
 refine ACall.of_body func45 rfl ntmps45 results45 rfl ?_;iterate 6 refine AX ?_
 refine AWP.loopW (atL l gr sc o b n ws k0 s H) (l.length) ⟨0,Nat.zero_le _,rfl,by rw[boN];exact(Heap.set_self hb).symm,rfl⟩ sX (hRa _) ?_;rintro _ _ _ ⟨i,hi,rfl,rfl,rfl⟩;iterate 6 refine AX ?_
 refine .p rfl (zA U186 rfl Z184 (tm rfl)) ?_;iterate 5 refine AX ?_
 refine AWP.cond (tm rfl) (λhc13=>?_) (λhc13=>?_)
 ·try simp only[aK]at hc13
  iterate 8 refine AX ?_
  refine .p rfl (zA U186 rfl Z48 (tm rfl)) (.p rfl (zA U48 rfl Z46 (tm rfl)) ?_);iterate 3 refine AX ?_
  refine .p rfl (zA U78 rfl Z3 (tm rfl)) ?_;iterate 5 refine AX ?_
  refine AWP.cond (tm rfl) (λhc26=>?_) (λhc26=>?_)
  ·try simp only[aK]at hc26
   iterate 3 refine AX ?_
   refine .p rfl (zA U186 rfl Z184 (tm rfl)) (.p rfl (zV G184 (tm rfl)) (.mv rfl rfl (.mv rfl rfl (.p rfl (yH U184 Z9 (tm rfl) (tm rfl) aA aA) (.e0 (yP AV.str s i Z9 (tm rfl) (tm rfl) rfl rfl (oS _ _ _) aA (by rw[axC];omega)) ?_)))));rw[sS];iterate 9 refine AX ?_
   refine Round.mk (J:=atL l gr sc o b n ws k0 s H) ⟨i+1,by omega,rfl,by first|exact congrArg (λz=>H.set b (wdR z)) (axA ((qB aA).trans hc26))|(rw[axB (i:=i) (λq=>hc26 ((qB (i:=i) aA).symm.trans q))]),rfl⟩ sX (hRa _) aA
  try simp only[aK]at hc26
  iterate 9 refine AX ?_
  refine Round.mk (J:=atL l gr sc o b n ws k0 s H) ⟨i+1,by omega,rfl,by first|exact congrArg (λz=>H.set b (wdR z)) (axA ((qB aA).trans hc26))|(rw[axB (i:=i) (λq=>hc26 ((qB (i:=i) aA).symm.trans q))]),rfl⟩ sX (hRa _) aA
 try simp only[aK]at hc13
 iterate 4 refine AX ?_
 refine Ret.go' .nil _ (hRa _) ?_;have hil:i=l.length:=by omega
 subst hil;rfl
def akU(l:List ItN)(gr:Bool)(sc:Int)(o:Loc)(b:Nat)(H:Heap):Nat→Env→Heap→Prop:=λk env H1=>∃i:Nat,i≤l.length∧env=[(2,.iptr [itS l .shared,.bool gr,.int .i64 sc]),(3,.iptr (rL o).cells),(5,.iptr (bkY l gr sc o b l.length)),(6,.int .i64 (i:Int))]∧H1=H.set b (wdR (awX o l i))∧k=l.length-i
theorem ayA(l:List ItN)(gr:Bool)(sc:Int)(o:Loc)(hl:l.length≤100000)(H:Heap):ACall prog 43 [.agg [itS l .shared,.bool gr,.int .i64 sc],rL o] H (λy H'=>∃b,y= .iptr (bkY l gr sc o b l.length)∧H.objs b=none∧H'=H.set b (wdR ((l.map (acV o)).map Pc.txt))):=by
 refine ACall.of_body func43 rfl ntmps43 results43 rfl ?_;iterate 2 refine AX ?_
 refine .e rfl (qA (tm rfl) (.inr ⟨_,rfl⟩)) (.e rfl (qA (tm rfl) (.inr ⟨_,rfl⟩)) (.p rfl (zC alW) ?_));iterate 3 refine AX ?_
 refine AWP.draw [(0,true),(1,true),(2,true),(3,true),(4,true),(5,false),(6,true),(7,true),(8,true)] rfl aE ?_;iterate 2 refine AX ?_
 refine .p rfl rfl (zA U48 rfl Z46 (tm rfl)) ?_;iterate 2 refine AX ?_
 refine .s rfl rfl (akH (m:=l.length) U184 typeInfo9 Z9 zeroValue9 (tm rfl) (tm rfl) aC aA) ?_;rintro _ _ ⟨b,rfl,hb,hH⟩;obtain rfl:=hH.symm;refine .p rfl rfl (qN zr186 pl186 (.cons (tm rfl) (.inr ⟨_,rfl⟩) (.cons (tm rfl) (.inr ⟨_,rfl⟩) (.cons (tm rfl) (.inl rfl) .nil))) rfl) ?_;refine APlan.f rfl rfl (λ_=>qA (tm rfl) (.inr ⟨_,rfl⟩)) ?_;iterate 10 refine AX ?_
 refine AWP.loopW (akU l gr sc o b H) (l.length) ⟨0,Nat.zero_le _,rfl,by rw[boM];unfold wdR;rw[List.map_replicate],rfl⟩ sX (hRa _) ?_;rintro _ _ _ ⟨i,hi,rfl,rfl,rfl⟩;iterate 4 refine AX ?_
 refine .p rfl (zA U48 rfl Z46 (tm rfl)) ?_;iterate 5 refine AX ?_
 refine AWP.cond (tm rfl) (λhc19=>?_) (λhc19=>?_)
 ·try simp only[aK]at hc19
  iterate 6 refine AX ?_
  refine .p rfl (zA U48 rfl Z46 (tm rfl)) ?_;iterate 3 refine AX ?_
  refine .p rfl (zA U78 rfl Z3 (tm rfl)) ?_;iterate 10 refine AX ?_
  refine AWP.cond (tm rfl) (λhc28=>?_) (λhc28=>?_)
  ·try simp only[aK]at hc28
   refine AWP.draw [(0,true),(1,true),(2,true),(3,true),(4,true),(5,true),(6,true),(7,true),(8,true),(9,true),(10,true),(11,true),(12,false)] rfl aE ?_;iterate 2 refine AX ?_
   refine .p rfl rfl (zA U186 rfl Z184 (tm rfl)) ?_;iterate 2 refine AX ?_
   refine .p rfl rfl (zA U48 rfl Z46 (tm rfl)) ?_;iterate 2 refine AX ?_
   refine .p rfl rfl (aeH U46 Z78 (tm rfl) (tm rfl) aA aA) (.p rfl rfl (zA U78 rfl Z9 (tm rfl)) (.p rfl rfl (zV G9 (tm rfl)) (.p rfl rfl (yH U184 Z9 (tm rfl) (tm rfl) aA aA) (.s0 rfl (yP AV.str (l[i].text) i Z9 (tm rfl) (tm rfl) rfl rfl (oS _ _ _) aA (by rw[ahZ o l hi];omega)) ?_))));rintro _ _ ⟨rfl,hH⟩;obtain rfl:=hH.symm;rw[sS];rw[afY o (show i<l.length by omega) (by unfold acV;rw[aM (by exact hc28)];rfl)];iterate 10 refine AX ?_
   refine Round.mk (J:=akU l gr sc o b H) ⟨i+1,by omega,rfl,by first|rfl|(rw[adZ o (show i<l.length by omega) (by unfold acV;rw[aL (by exact hc28),aL (by exact hc42),aL (by exact hc52),aL (by exact hc62),aL (by exact hc72)];rfl)]),rfl⟩ sX (hRa _) aA
  try simp only[aK]at hc28
  iterate 6 refine AX ?_
  refine AWP.cond (tm rfl) (λhc42=>?_) (λhc42=>?_)
  ·try simp only[aK]at hc42
   refine AWP.draw [(0,true),(1,true),(2,true),(3,true),(4,true),(5,true),(6,true),(7,true),(8,false)] rfl aE ?_;iterate 2 refine AX ?_
   refine .p rfl rfl (zA U186 rfl Z184 (tm rfl)) ?_;refine AX ?_;refine .p rfl rfl (zD (tm rfl)) (.p rfl rfl (zA U34 rfl Z9 (tm rfl)) (.p rfl rfl (zV G9 (tm rfl)) (.p rfl rfl (yH U184 Z9 (tm rfl) (tm rfl) aA aA) (.s0 rfl (yP AV.str (o.cur) i Z9 (tm rfl) (tm rfl) rfl rfl (oS _ _ _) aA (by rw[ahZ o l hi];omega)) ?_))));rintro _ _ ⟨rfl,hH⟩;obtain rfl:=hH.symm;rw[sS];rw[afY o (show i<l.length by omega) (by unfold acV;rw[aL (by exact hc28),aM (by exact hc42)];rfl)];iterate 10 refine AX ?_
   refine Round.mk (J:=akU l gr sc o b H) ⟨i+1,by omega,rfl,by first|rfl|(rw[adZ o (show i<l.length by omega) (by unfold acV;rw[aL (by exact hc28),aL (by exact hc42),aL (by exact hc52),aL (by exact hc62),aL (by exact hc72)];rfl)]),rfl⟩ sX (hRa _) aA
  try simp only[aK]at hc42
  iterate 6 refine AX ?_
  refine AWP.cond (tm rfl) (λhc52=>?_) (λhc52=>?_)
  ·try simp only[aK]at hc52
   refine AWP.draw [(0,true),(1,true),(2,true),(3,true),(4,true),(5,true),(6,true),(7,true),(8,false)] rfl aE ?_;iterate 2 refine AX ?_
   refine .p rfl rfl (zA U186 rfl Z184 (tm rfl)) ?_;refine AX ?_;refine .p rfl rfl (zD (tm rfl)) (.p rfl rfl (zA U34 rfl Z9 (tm rfl)) (.p rfl rfl (zV G9 (tm rfl)) (.p rfl rfl (yH U184 Z9 (tm rfl) (tm rfl) aA aA) (.s0 rfl (yP AV.str (o.pct) i Z9 (tm rfl) (tm rfl) rfl rfl (oS _ _ _) aA (by rw[ahZ o l hi];omega)) ?_))));rintro _ _ ⟨rfl,hH⟩;obtain rfl:=hH.symm;rw[sS];rw[afY o (show i<l.length by omega) (by unfold acV;rw[aL (by exact hc28),aL (by exact hc42),aM (by exact hc52)];rfl)];iterate 10 refine AX ?_
   refine Round.mk (J:=akU l gr sc o b H) ⟨i+1,by omega,rfl,by first|rfl|(rw[adZ o (show i<l.length by omega) (by unfold acV;rw[aL (by exact hc28),aL (by exact hc42),aL (by exact hc52),aL (by exact hc62),aL (by exact hc72)];rfl)]),rfl⟩ sX (hRa _) aA
  try simp only[aK]at hc52
  iterate 6 refine AX ?_
  refine AWP.cond (tm rfl) (λhc62=>?_) (λhc62=>?_)
  ·try simp only[aK]at hc62
   refine AWP.draw [(0,true),(1,true),(2,true),(3,true),(4,true),(5,true),(6,true),(7,true),(8,false)] rfl aE ?_;iterate 2 refine AX ?_
   refine .p rfl rfl (zA U186 rfl Z184 (tm rfl)) ?_;refine AX ?_;refine .p rfl rfl (zD (tm rfl)) (.p rfl rfl (zA U34 rfl Z9 (tm rfl)) (.p rfl rfl (zV G9 (tm rfl)) (.p rfl rfl (yH U184 Z9 (tm rfl) (tm rfl) aA aA) (.s0 rfl (yP AV.str (o.dc) i Z9 (tm rfl) (tm rfl) rfl rfl (oS _ _ _) aA (by rw[ahZ o l hi];omega)) ?_))));rintro _ _ ⟨rfl,hH⟩;obtain rfl:=hH.symm;rw[sS];rw[afY o (show i<l.length by omega) (by unfold acV;rw[aL (by exact hc28),aL (by exact hc42),aL (by exact hc52),aM (by exact hc62)];rfl)];iterate 10 refine AX ?_
   refine Round.mk (J:=akU l gr sc o b H) ⟨i+1,by omega,rfl,by first|rfl|(rw[adZ o (show i<l.length by omega) (by unfold acV;rw[aL (by exact hc28),aL (by exact hc42),aL (by exact hc52),aL (by exact hc62),aL (by exact hc72)];rfl)]),rfl⟩ sX (hRa _) aA
  try simp only[aK]at hc62
  iterate 6 refine AX ?_
  refine AWP.cond (tm rfl) (λhc72=>?_) (λhc72=>?_)
  ·try simp only[aK]at hc72
   iterate 3 refine AX ?_
   refine .p rfl (zA U186 rfl Z184 (tm rfl)) (.p rfl (zV G184 (tm rfl)) (.mv rfl rfl (.p rfl (yH U184 Z9 (tm rfl) (tm rfl) aA aA) (.e0 (yP AV.str ([47]) i Z9 (tm rfl) (zM rfl) rfl rfl (oS _ _ _) aA (by rw[ahZ o l hi];omega)) ?_))));rw[sS];rw[afY o (show i<l.length by omega) (by unfold acV;rw[aL (by exact hc28),aL (by exact hc42),aL (by exact hc52),aL (by exact hc62),aM (by exact hc72)];rfl)];iterate 10 refine AX ?_
   refine Round.mk (J:=akU l gr sc o b H) ⟨i+1,by omega,rfl,by first|rfl|(rw[adZ o (show i<l.length by omega) (by unfold acV;rw[aL (by exact hc28),aL (by exact hc42),aL (by exact hc52),aL (by exact hc62),aL (by exact hc72)];rfl)]),rfl⟩ sX (hRa _) aA
  try simp only[aK]at hc72
  iterate 10 refine AX ?_
  refine Round.mk (J:=akU l gr sc o b H) ⟨i+1,by omega,rfl,by first|rfl|(rw[adZ o (show i<l.length by omega) (by unfold acV;rw[aL (by exact hc28),aL (by exact hc42),aL (by exact hc52),aL (by exact hc62),aL (by exact hc72)];rfl)]),rfl⟩ sX (hRa _) aA
 try simp only[aK]at hc19
 iterate 12 refine AX ?_
 refine Ret.go (.cons (.tmp _ _ rfl) .nil) _ (hRa _) ?_;have hil:i=l.length:=by omega
 subst hil;exact⟨b,rfl,hb,by rw[boL]⟩
theorem axP(o:Loc)(s:SecN)(x:List UInt8):(axD s.items 8 x s.items.length ((s.items.map (acV o)).map Pc.txt)).flatten=bbI o s x:=by
 rw[biG];rfl
theorem bfX(o:Loc){p:List SecN}(x:List UInt8)(h:qL p=true)(k:Int)(hk:zX (afK p)=k):agA o p x=if p.length=4∨(p.length=1∧k=6)then(bbI o (afK p) x,0)else(x,0):=by
 have hl:=adR h;unfold agA;rw[aL (by rw[h];simp),hk];by_cases q:p.length<4∧(1<p.length∨k≠6)
 ·rw[aM q,aI]
 rw[aL q,aJ]
theorem aqS(p:List SecN)(tp:Tail)(hs:∀s,s∈p→s.items.length≤1000)(x:List UInt8)(hx:x.length≤1000)(o:Loc)(ho:o.ok)(H:Heap):ACall prog 15 [aeK p tp,.str x,rL o] H (λy H'=>y= .tuple [.str (agA o p x).1,.int .i64 (agA o p x).2]∧H'=H):=by
 refine ACall.of_body func15 rfl ntmps15 results15 rfl ?_;iterate 10 refine AX ?_
 refine .cl rfl call18 (evs1 rfl) (aeD _ _ hs _) ?_;iterate 10 refine AX ?_
 refine AWP.cx rfl (λhc13=>?_) (λhc13=>?_)
 ·iterate 9 refine AX ?_
  refine⟨?_,rfl⟩;unfold agA;rw[aM hc13];rfl
 have hr:qL p=true:=by simpa using hc13
 obtain⟨hp1,hp4⟩:=adR hr;obtain⟨hl1,hl2,hl3⟩:=ahD hr (awO aA);have hla:p[(((p.length:Nat):Int)-1).toNat]'aA=afK p:=by
  unfold afK;rw[adQ (show p.length-1<p.length by omega)];congr 1;omega
 have hl0:p.length=1→p[(Int.toNat 0)]'aA=afK p:=λq=>by
  unfold afK;rw[adQ (show p.length-1<p.length by omega)];congr 1;omega
 have hle:=λh1 h2=>avQ ho (s:=afK p) (x:=x) h1 h2 hx;have hfl:=axP o (afK p) x;have hte:=λk hk=>bfX o x hr k hk;generalize afK p=z at *;obtain⟨l,gr,sc⟩:=z;have hle:=hle hl1 hl2;rw[←hfl]at hle;have hl1:l.length≤100:=hl1;generalize hkk:zX (SecN.mk l gr sc)=kk at *;have hte:=hte _ rfl;have hsh:∀(q:p.length=1)(H:Heap),ACall prog 16 [AV.agg (List.take 3 (SecN.av (p[(Int.toNat 0)]'aA)).cells)] H (λy H'=>y= .int .i64 kk∧H'=H):=λq H=>by
  rw[hl0 q,←hkk];exact afG l gr sc _ aA H
 have hbg:∀H:Heap,ACall prog 43 [AV.agg (List.take 3 (SecN.av (p[(((p.length:Nat):Int)-1).toNat]'aA)).cells),rL o] H (λy H'=>∃b,y= .iptr (bkY l gr sc o b l.length)∧H.objs b=none∧H'=H.set b (wdR ((l.map (acV o)).map Pc.txt))):=λH=>by
  rw[hla];exact ayA l gr sc o aA H
 iterate 3 refine AX ?_
 refine AWP.seqTo 28 (.bool (decide (p.length=4∨(p.length=1∧kk=6)))) [0,1,5,6,7] ?_ ?_
 ·iterate 5 refine AX ?_
  refine zB (t:=17) rfl (λhg17=>?_) (λhg17=>?_)
  ·have hh17:=hg17;try simp only[aK]at hh17
   iterate 12 refine AX ?_
   exact⟨rfl,zP rfl (by(refine Eq.symm ?_;first|((with_reducible refine aN.2 ?_);(first|omega|simp[*]))|((with_reducible refine aP ?_);(first|omega|simp[*]))|((with_reducible refine aO ?_);(first|omega|simp[*])))) sX,rfl⟩
  have hh17:=hg17;try simp only[aK]at hh17
  iterate 4 refine AX ?_
  refine zB (t:=21) rfl (λhg21=>?_) (λhg21=>?_)
  ·have hh21:=hg21;try simp only[aK]at hh21
   iterate 3 refine AX ?_
   refine .gs rfl rfl rfl aB (zE call16 (evs1 rfl) (hsh aA _)) ?_;rintro _ _ ⟨rfl,hH⟩;obtain rfl:=hH.symm;iterate 4 refine AX ?_
   exact⟨rfl,zP rfl (by(refine Eq.symm ?_;first|((with_reducible refine aN.2 ?_);(first|omega|simp[*]))|((with_reducible refine aP ?_);(first|omega|simp[*]))|((with_reducible refine aO ?_);(first|omega|simp[*])))) sX,rfl⟩
  have hh21:=hg21;try simp only[aK]at hh21
  iterate 8 refine AX ?_
  exact⟨rfl,zP rfl (by(refine Eq.symm ?_;first|((with_reducible refine aN.2 ?_);(first|omega|simp[*]))|((with_reducible refine aP ?_);(first|omega|simp[*]))|((with_reducible refine aO ?_);(first|omega|simp[*])))) sX,rfl⟩
 refine AWP.sub [(28,_),(0,_),(1,_),(5,_),(6,_),(7,_)] sX ?_;refine AWP.cx rfl (λhc28=>?_) (λhc28=>?_)
 ·refine AX ?_;refine AWP.draw [(0,true),(1,true),(2,true),(3,true),(4,true),(5,true),(6,true),(7,false),(8,true)] rfl aE ?_;iterate 7 refine AX ?_
  refine .s rfl rfl (zE call43 (evs2 rfl rfl) (hbg _)) ?_;rintro _ _ ⟨b,rfl,hb,rfl⟩;iterate 7 refine AX ?_
  refine .s rfl (zE call45 (.cons (tm rfl) (.cons zG (evs1 rfl))) (atJ l gr sc o b l.length ((l.map (acV o)).map Pc.txt) aF rfl aA 8 x _ (oS _ _ _))) ?_;rintro _ _ rfl;rw[sS];iterate 5 refine AX ?_
  refine .cl rfl call51 (evs1 rfl) (aqR l gr sc o b l.length _ (by rw[axC];simp) aA hle _ (oS _ _ _)) ?_;iterate 6 refine AX ?_
  refine Ret.go (.cons (.tmp _ _ rfl) (.cons (.tmp _ _ rfl) .nil)) H (Heap.le_set hb _) ?_;refine⟨?_,rfl⟩;rw[hte,aM hc28,←hfl];rfl
 iterate 11 refine AX ?_
 refine⟨?_,rfl⟩;rw[hte,aL hc28];rfl
end
section
open Go Go.RowKit
set_option maxRecDepth 100000
def bfP(i:Nat):AV:=.int .i64 (i:Int)
def acI(a:List Nat)(tl:Tail):AV:=.slice 1 (a.map bfP) tl
theorem atM(a:List Nat):∀x,x∈a.map bfP→x.row 1:=λx hx=>by
 obtain⟨i,_,rfl⟩:=dF.1 hx;exact⟨rfl,rfl⟩
theorem ayS(x:ItN)(ks:List Int)(tl:Tail)(hl:ks.length≤1000):Fn 173 [x.av,.iptr [.slice 1 (ks.map (.int .i64)) tl]] (.bool (decide (x.kind∈ks))):=by
 intro H;refine .of_body func173 rfl ntmps173 results173 rfl ?_;iterate 9 refine AX ?_
 refine .p rfl (zA U57 rfl Z3 (tm rfl)) ?_;refine AX ?_;refine .cl rfl call174 (evs2 rfl rfl) (anC _ _ _ aB _) ?_;iterate 5 refine AX ?_
 exact⟨rfl,rfl⟩
theorem adD(l:List ItN)(gr:Bool)(sc:Int)(o:Loc)(b n:Nat)(hl:l.length≤100000)(ks:List Int)(tk:Tail)(hk:ks.length≤1000):Fn 94 [.iptr (shC l gr sc o b n),.slice 1 (ks.map (.int .i64)) tk] (.int .i64 (zW l ks:Int)):=by
 intro H;have hcl:zW l ks≤l.length:=List.findIdx_le_length;refine .of_body func94 rfl ntmps94 results94 rfl ?_;iterate 10 refine AX ?_
 refine .p rfl (zA U89 rfl Z52 (tm rfl)) (.p rfl (zA U52 rfl Z50 (tm rfl)) ?_);iterate 2 refine AX ?_
 refine .cl rfl call172 (evs2 rfl rfl) (anV l .shared hl _ _ (λx=>decide (x.kind∈ks)) _ call173 (λx=>ayS x ks tk hk _)) ?_;rw[show l.findIdx (λx=>decide (x.kind∈ks))=zW l ks from rfl];generalize hq:(if zW l ks=l.length then(-1:Int)else((zW l ks:Nat):Int))=q;have hq1:(q<0→zW l ks=l.length)∧(¬q<0→q=(zW l ks:Nat)):=by rw[←hq];split<;>omega
 iterate 10 refine AX ?_
 refine .cx rfl (λhc14=>?_) (λhc14=>?_)
 ·iterate 4 refine AX ?_
  refine .p rfl (zA U89 rfl Z52 (tm rfl)) (.p rfl (zA U52 rfl Z50 (tm rfl)) ?_);iterate 8 refine AX ?_
  rw[hq1.1 hc14];exact⟨rfl,rfl⟩
 iterate 10 refine AX ?_
 rw[←hq1.2 aA];exact⟨rfl,rfl⟩
def atU(l:List ItN)(gr:Bool)(sc:Int)(o:Loc)(b n:Nat)(a e:Nat)(H:Heap):Nat→Env→Heap→Prop:=λk env H1=>∃(i t:Nat),a≤i∧i≤e∧env=[(0,.iptr (shC l gr sc o b n)),(2,.int .i64 (e:Int)),(7,acI (aeY l a i) (.own t)),(8,.int .i64 (i:Int))]∧H.le H1∧H1.toks t=true∧H.toks t=false∧k=e-i
theorem abM(l:List ItN)(gr:Bool)(sc:Int)(o:Loc)(b n:Nat)(hl:l.length≤100000)(a e:Nat)(hae:a≤e)(hel:e≤l.length)(H:Heap):ACall prog 95 [.iptr (shC l gr sc o b n),.int .i64 (a:Int),.int .i64 (e:Int)] H (λy H'=>y=acI (aeY l a e) .shared∧H'=H):=by
 have hle0:=hRa H;refine ACall.of_body func95 rfl ntmps95 results95 rfl ?_;iterate 18 refine AX ?_
 refine AWP.tag (t:=7) rfl (λu7 hu7=>?_);have hfu7:=Heap.fresh_of hle0 hu7;have hleu7:=Heap.le_in hle0 u7;refine AWP.loopW (atU l gr sc o b n a e H) (e-a) ⟨a,u7,bA _,hae,rfl,hleu7,Heap.toks_live_same _ _,hfu7,rfl⟩ (zJ rfl (zJ rfl (yD rfl (ahA (by rw[bjX];rfl)) (zJ rfl yF)))) (hRa _) ?_;rintro _ _ H1 ⟨i,t,hai,hie,rfl,hle1,hlive,hfr,rfl⟩;iterate 8 refine AX ?_
 refine AWP.cx rfl (λhc12=>?_) (λhc12=>?_)
 ·iterate 8 refine AX ?_
  refine .p rfl (zA U89 rfl Z52 (tm rfl)) (.p rfl (zA U52 rfl Z50 (tm rfl)) ?_);iterate 3 refine AX ?_
  refine .p rfl (zA U57 rfl Z3 (tm rfl)) ?_;iterate 4 refine AX ?_
  refine AWP.cx rfl (λhc24=>?_) (λhc24=>?_)
  ·iterate 3 refine AX ?_
   refine .e rfl (yU U30 Z3 V3 rfl (tm rfl) (.inl rfl) ⟨rfl,rfl⟩) ?_;refine .s rfl (acO U30 U30 Z3 typeInfo3 V3 rfl aC (tm rfl) (tm rfl) (by exact .own _ hlive) (by show(_+_)*8≤_;simp only[bR,aW,aY];have:=acC l a i;omega) (by repeat' (first|exact qY _|exact ahC|exact aoP ⟨rfl,rfl⟩ ahC|exact afR (qY _)|exact afQ (qY _)|refine aiJ ?_ ?_ |exact atM _)) (by repeat' (first|exact qY _|exact ahC|exact aoP ⟨rfl,rfl⟩ ahC|exact afR (qY _)|exact afQ (qY _)|refine aiJ ?_ ?_))) ?_;rintro _ _ ⟨t28,ht28,rfl,hH⟩;obtain rfl:=hH.symm;have hf28:=Heap.fresh_of hle1 ht28;have hle28:=Heap.le_in (Heap.le_out (t:=t) hle1 aB) t28;iterate 10 refine AX ?_
   refine Round.mk (J:=atU l gr sc o b n a e H) ⟨i+1,t28,by omega,by omega,rfl,hle28,Heap.toks_live_same _ _,hf28,rfl⟩ (zJ rfl (zJ rfl (yD rfl (ahA (by rw[awW l hai,aM ((qB (i:=i) aA).trans hc24),eA];rfl)) (zJ rfl yF)))) (hRa _) aA
  iterate 9 refine AX ?_
  refine Round.mk (J:=atU l gr sc o b n a e H) ⟨i+1,t,by omega,by omega,rfl,hle1,hlive,hfr,rfl⟩ (zJ rfl (zJ rfl (yD rfl (ahA (by rw[awW l hai,aL (λq=>hc24 ((qB (i:=i) aA).symm.trans q)),bT])) (zJ rfl yF)))) (hRa _) aA
 iterate 6 refine AX ?_
 have hie:i=e:=by omega
 subst hie;refine AWP.weakv (acI (aeY l a i) .shared) (t:=7) rfl (.slice _ _ _) ?_;iterate 6 refine AX ?_
 refine Ret.go (.cons (.tmp _ _ rfl) .nil) _ (hle1) ?_;exact⟨rfl,rfl⟩
end
end Go.Proofs.YteedncdcbgplfaaGreatDoor
