import Derived.Test.YteedncdcbgplfaaGreatDoorLgk
set_option maxHeartbeats 1000000
namespace Go.Proofs.YteedncdcbgplfaaGreatDoor
open Go.Proofs.Tryz
open Go Go.RowKit
variable{i m:Nat}{x:Operand}
inductive Pc where
 |fx (s:List UInt8)
 |hl (sign mark:List UInt8)
variable{o:List Pc}
def Pc.txt:Pc→List UInt8
 | .fx s=>s
 | .hl sg mk=>if sg=[48]then 48::mk else if sg=[63]then [32]else []
def aeL(l:Loc)(x:ItN):Pc:=
 if x.kind=1 then .fx x.text else if x.kind=9 then .fx l.cur else if x.kind=4 then .fx l.pct else if x.kind=3 then .fx l.dc else if x.kind=6 then .fx [47]else .fx []
def afY(o:List Pc):List UInt8:=(o.map Pc.txt).flatten
def abS(l:List ItN)(i:Nat):Int:=(l.getD i ⟨0,[]⟩).kind
def aaA(l:List ItN)(i:Nat):List UInt8:=(l.getD i ⟨0,[]⟩).text
def agW(l:List ItN)(a b:Nat):List Nat:=(List.range b).filter λi=>decide (a≤i)&&decide (abS l i=2)
theorem bkO(l:List ItN){a:Nat}(h:a≤i):agW l a (i+1)=agW l a i++(if abS l i=2 then [i]else []):=by
 unfold agW;rw[List.range_succ,List.filter_append];by_cases q:abS l i=2<;>simp[h,q]
theorem ceU(l:List ItN)(a:Nat):agW l a a=[]:=by
 unfold agW;rw[List.filter_eq_nil_iff];intro i hi;have:=gA.1 hi;simp;omega
theorem abI{l:List ItN}{a b:Nat}:i∈agW l a b↔i<b∧a≤i∧abS l i=2:=by
 unfold agW;rw[List.mem_filter,gA];simp
theorem adZ(l:List ItN)(a b:Nat):(agW l a b).length≤b:=by
 unfold agW;exact bC (List.length_filter_le _ _) aF
def aaS(l:Loc)(g:Bool)(k:Nat):List UInt8:=if g=true∧3≤k∧(k-3)%l.second=0 then l.grp else []
def ajQ(mk:Nat→List UInt8):List UInt8→Nat→List UInt8
 | [],_=>[]
 |x::r,last=>x::mk (last+r.length)++ajQ mk r last
def adS(row:List UInt8)(fst:Bool)(n:Nat):List UInt8:=(row.take (row.length-n)).drop (if fst then 0 else row.length-1-n)
def acF(l:List ItN)(mk:Nat→List UInt8)(row:List UInt8):Bool→Bool→List Nat→List Pc→List Pc
 |_,_,[],o=>o
 |fst,z,k::r,o=>
  acF l mk row false (z||decide (aaA l k=[48])) r (o.set k (if row.length≤r.length then .hl (if(z||decide (aaA l k=[48]))=true then [48]else aaA l k) (mk r.length)else .fx (ajQ mk (adS row fst r.length) r.length)))
def aiM(l:List ItN)(mk:Nat→List UInt8)(row:List UInt8):Bool→Bool→List Nat→List (List UInt8)→List (List UInt8)
 |_,_,[],o=>o
 |fst,z,k::r,o=>
  aiM l mk row false (z||decide (aaA l k=[48])) r (o.set k (if r.length<row.length then ajQ mk (adS row fst r.length) r.length else if(z||decide (aaA l k=[48]))=true then 48::mk r.length else if aaA l k=[63]then [32]else []))
theorem bqH(l:List ItN)(mk:Nat→List UInt8)(row:List UInt8)(fst z:Bool)(at_:List Nat)(o:List Pc):
  (acF l mk row fst z at_ o).map Pc.txt=aiM l mk row fst z at_ (o.map Pc.txt):=by
 induction at_ generalizing fst z o with
 |nil=>rfl
 |cons k r ih=>
  rw[acF,aiM,ih,List.map_set];refine congrArg (λx=>aiM l mk row false _ r ((o.map Pc.txt).set k x)) ?_;by_cases h:row.length≤r.length
  ·rw[aN h,aM (show¬r.length<row.length by omega)];cases hz:(z||decide (aaA l k=[48]))with
   |true=>rfl
   |false=>
    have:aaA l k≠[48]:=by simp at hz;exact hz.2
    simp only[Pc.txt,dN,if_false,aM this]
  rw[aM h,aN (show r.length<row.length by omega)];rfl
def abL(l:List ItN):Nat→List Nat→Nat→Nat
 |_,[],m=>m
 |i,k::r,m=>abL l (i+1) r (if aaA l k=[48]then max m (i+1)else m)
def aaQ(l:List ItN)(row:List UInt8)(last:Nat):Nat→List Nat→List Pc→List Pc
 |_,[],o=>o
 |i,k::r,o=>aaQ l row last (i+1) r (o.set k (if i<last then .fx [row.getD i 0]else .hl (aaA l k) []))
def aeS(row:List UInt8):Nat:=(row.reverse.dropWhile (·==48)).length
def beS(l:List ItN)(row:List UInt8):Nat→List Nat→Bool
 |_,[]=>false
 |i,k::r=>(decide (row.getD i 0≠48)||decide (aaA l k=[48]))||beS l row (i+1) r
def agQ(l:List ItN)(row:List UInt8):Nat→List Nat→List (List UInt8)→List (List UInt8)
 |_,[],o=>o
 |i,k::r,o=>agQ l row (i+1) r (if beS l row i (k::r)=true then o.set k [row.getD i 0]else if aaA l k=[63]then o.set k [32]else o)
theorem amW(l:List ItN)(i:Nat)(r:List Nat)(m:Nat):abL l i r m=max m (abL l i r 0):=by
 induction r generalizing i m with
 |nil=>simp[abL]
 |cons k r ih=>
  rw[abL,abL];by_cases q:aaA l k=[48]<;>simp only[q,if_true,if_false,Nat.zero_max]
  ·rw[ih _ (max m (i+1)),ih _ (i+1),Nat.max_assoc]
  exact ih _ _
theorem cbC(l:List ItN)(i:Nat)(r:List Nat):abL l i r 0=0∨i<abL l i r 0∧abL l i r 0≤i+r.length:=by
 induction r generalizing i with
 |nil=>exact .inl rfl
 |cons k r ih=>
  rw[abL,amW];have h:=ih (i+1);simp only[aW];generalize abL l (i+1) r 0=t at *;by_cases q:aaA l k=[48]<;>simp only[q,if_true,if_false,Nat.zero_max]<;>omega
theorem bjU(l:List ItN)(i:Nat)(k:Nat)(r:List Nat):i<abL l i (k::r) 0↔aaA l k=[48]∨i+1<abL l (i+1) r 0:=by
 rw[abL,amW];have h:=cbC l (i+1) r;generalize abL l (i+1) r 0=t at *;by_cases q:aaA l k=[48]<;>simp only[q,if_true,if_false,true_or,false_or,Nat.zero_max,iff_true]<;>omega
theorem aqD(row:List UInt8)(i:Nat):i<aeS row↔∃j,i≤j∧j<row.length∧row.getD j 0≠48:=by
 unfold aeS;have key:∀m:List UInt8,(m.dropWhile (·==48)).length≤m.length∧(∀q,q<m.length-(m.dropWhile (·==48)).length→m.getD q 0=48)∧((m.dropWhile (·==48)).length≠0→m.getD (m.length-(m.dropWhile (·==48)).length) 0≠48):=by
  intro m;induction m with
  |nil=>simp
  |cons x m ih=>
   rw[eC];obtain⟨h1,h2,h3⟩:=ih;by_cases hx:(x==48)=true
   ·rw[aN hx];have hx':x=48:=by simpa using hx
    refine⟨by simp;omega,λq hq=>?_,λh=>?_⟩
    ·cases q with
     |zero=>exact hx'
     |succ q=>exact h2 q (by simp at hq;omega)
    have:=h3 h;have e:(x::m).length-(m.dropWhile (·==48)).length=(m.length-(m.dropWhile (·==48)).length)+1:=by simp;omega
    rw[e];exact this
   rw[aM hx];refine⟨aZ _,λq hq=>by omega,λ_=>?_⟩;simp at hx ⊢;exact hx
 obtain⟨h1,h2,h3⟩:=key row.reverse;rw[fJ]at h1 h2 h3;generalize(row.reverse.dropWhile (·==48)).length=t at *;have rev:∀q,q<row.length→row.reverse.getD q 0=row.getD (row.length-1-q) 0:=λq hq=>by
  rw[aP,aP,List.getElem?_reverse hq]
 constructor
 ·intro hi;refine⟨t-1,by omega,by omega,?_⟩;have:=h3 aA;rw[rev _ aA]at this
  rwa[show row.length-1-(row.length-t)=t-1 by omega]at this
 rintro⟨j,hj,hl,hne⟩;rcases bX i t with h|h
 ·exact h
 refine absurd ?_ hne;have:=h2 (row.length-1-j) aA;rw[rev _ aA]at this
 rwa[show row.length-1-(row.length-1-j)=j by omega]at this
theorem bzE(l:List ItN)(row:List UInt8)(i:Nat)(r:List Nat)(hl:row.length=i+r.length):beS l row i r=true↔(i<aeS row∨i<abL l i r 0):=by
 induction r generalizing i with
 |nil=>
  simp only[beS,dN,false_iff,abL,aqD];rintro(⟨j,h1,h2,_⟩|h)
  ·simp at hl;omega
  omega
 |cons k r ih=>
  simp only[aW]at hl;rw[beS,dB,ih (i+1) aA,bjU,dB,aT,aT,aqD,aqD];constructor
  ·rintro((h|h)|⟨j,h1,h2,h3⟩|h)
   ·exact .inl ⟨i,aZ _,by omega,h⟩
   ·exact .inr (.inl h)
   ·exact .inl ⟨j,by omega,h2,h3⟩
   exact .inr (.inr h)
  rintro(⟨j,h1,h2,h3⟩|h|h)
  ·by_cases hj:j=i
   ·subst hj;exact .inl (.inl h3)
   exact .inr (.inl ⟨j,by omega,h2,h3⟩)
  ·exact .inl (.inr h)
  exact .inr (.inr h)
theorem bnE(l:List ItN)(row:List UInt8)(i:Nat)(r:List Nat)(o:List Pc)(hl:row.length=i+r.length)(hn:r.Nodup)(h0:∀k,k∈r→(o.map Pc.txt).getD k []=[])(hs:∀k,k∈r→aaA l k=[48]∨aaA l k=[35]∨aaA l k=[63])
  (m:Nat)(hm:∀j,i≤j→(j<m↔j<aeS row∨j<abL l i r 0)):
  (aaQ l row m i r o).map Pc.txt=agQ l row i r (o.map Pc.txt):=by
 induction r generalizing i o with
 |nil=>rfl
 |cons k r ih=>
  rw[aaQ,agQ];have hr:=bzE l row i (k::r) hl;have hmi:=hm i (aZ _);rw[ih (i+1) _ (by simp at hl ⊢;omega) (List.nodup_cons.1 hn).2 ?_ (λq hq=>hs q (gE _ hq)) ?_]
  ·congr 1
   rw[List.map_set];by_cases h:i<m
   ·rw[aN h,aN (hr.2 (hmi.1 h))];rfl
   rw[aM h,aM (λq=>h (hmi.2 (hr.1 q)))];have hk:aaA l k≠[48]:=λq=>h (hmi.2 (.inr ((bjU l i k r).2 (.inl q))));simp only[Pc.txt,aM hk];by_cases h3:aaA l k=[63]
   ·rw[aN h3,aN h3]
   rw[aM h3,aM h3];have e:=h0 k aF;refine List.ext_getElem? λj=>?_;rw[List.getElem?_set];split
   ·rename_i hj;subst hj
    split
    ·rename_i hlt
     rw[aP,aX hlt]at e;rw[aX hlt];exact congrArg some e.symm
    rename_i hlt;rw[gM aA]
   rfl
  ·intro q hq;rw[List.map_set,aP,List.getElem?_set_ne (λe:k=q=>(List.nodup_cons.1 hn).1 (by rw[e];exact hq)),←aP];exact h0 q (gE _ hq)
  intro j hj;rw[hm j aA];rw[abL,amW];split<;>omega
section
open Go Go.RowKit
set_option maxRecDepth 100000
theorem zr89:ZR 89 [.slice 2 [] .full,.bool false,.int .i64 0,.str [],.str [],.str [],.str [],.str [],.str [],.str [],.bool false,.bool false,.slice 1 [] .full,.slice 1 [] .full]:=ZRi zeroValue89
theorem pl89:PL 89 [(0,3),(3,10),(13,1)]:=PLi U89
theorem zr145:∀g,RelCells g [.str []] (Value.cells (Go.Value.agg #[Go.Value.string {data:= #[]}])):=λ_=>RelL.cells (.cons ((.str [] (Nat.zero_le _))) .nil)
theorem pl145(fs:Array Field)(hfs:prog.underlying 145=some (.struct fs)):∀(i:Nat) f p,fs[i]?=some f→[(0,1)][i]?=some p→∀w,(sizeOf f.type).run prog w= .ok p.2 w:=by
 have e:=(Option.some.inj (hfs.symm.trans U145));cases e
 intro i f p hf hp w
 match i with
 |0=>cases hf;cases hp;exact Z9 w
 |i+1=>simp at hp
theorem zr183:∀g,RelCells g [.str [],.str []] (Value.cells (Go.Value.agg #[Go.Value.string {data:= #[]},Go.Value.string {data:= #[]}])):=λ_=>RelL.cells (.cons ((.str [] (Nat.zero_le _))) (.cons ((.str [] (Nat.zero_le _))) .nil))
theorem pl183(fs:Array Field)(hfs:prog.underlying 183=some (.struct fs)):∀(i:Nat) f p,fs[i]?=some f→[(0,1),(1,1)][i]?=some p→∀w,(sizeOf f.type).run prog w= .ok p.2 w:=by
 have e:=(Option.some.inj (hfs.symm.trans U183));cases e
 intro i f p hf hp w
 match i with
 |0=>cases hf;cases hp;exact Z9 w
 |1=>cases hf;cases hp;exact Z9 w
 |i+2=>simp at hp
def Pc.av:Pc→AV
 | .fx s=>.iface 145 (.agg [.str s])
 | .hl a b=>.iface 183 (.agg [.str a,.str b])
theorem Pc.one(p:Pc):p.av.one=true∧p.av.cells=[p.av]:=by cases p<;>exact⟨rfl,rfl⟩
def Pc.fxB:Pc→Bool| .fx _=>true| .hl _ _=>false
def Pc.fxT:Pc→List UInt8| .fx s=>s| .hl _ _=>[]
def Pc.hlA:Pc→List UInt8| .fx _=>[]| .hl a _=>a
def Pc.hlB:Pc→List UInt8| .fx _=>[]| .hl _ b=>b
theorem Pc.txt_eq(p:Pc):p.txt=if p.fxB=true then p.fxT else if p.hlA=[48]then 48::p.hlB else if p.hlA=[63]then [32]else []:=by
 cases p with
 |fx s=>rfl
 |hl a b=>rfl
section
variable{dst:Option Tmp}{ty:TypeId}{pos:String}{af:Array Go.Edge}{gd:Option (Nat×Bool)}{env:Env}
theorem bsW{X:TypeId}{p:Pc}(hx:Ev env x p.av):APure prog ⟨dst,.typeAssert x X 145 true,ty,pos,af,gd⟩ env (.tuple [.agg [.str p.fxT],.bool p.fxB]):=by
 cases p with
 |fx s=>exact apA U145 rfl hx
 |hl a b=>exact apB U145 rfl V145 (λg=>.agg _ _ rfl (zr145 g).2) rfl hx
theorem bsV{X:TypeId}{p:Pc}(hx:Ev env x p.av):APure prog ⟨dst,.typeAssert x X 183 true,ty,pos,af,gd⟩ env (.tuple [.agg [.str p.hlA,.str p.hlB],.bool !p.fxB]):=by
 cases p with
 |fx s=>exact apB U183 rfl V183 (λg=>.agg _ _ rfl (zr183 g).2) rfl hx
 |hl a b=>exact apA U183 rfl hx
end
def shC(l:List ItN)(gr:Bool)(sc:Int)(o:Loc)(b n:Nat):List AV:=[itS l .shared,.bool gr,.int .i64 sc]++(pL o (szA o)).cells++[.mslice (some ⟨b,0,none⟩) n n]
def pcR(o:List Pc):AObj:=.box 147 (o.map Pc.av)
def bpY(o:Loc)(l:List ItN)(i:Nat):List AV:=((l.take i).map λx=>(aeL o x).av)++List.replicate (l.length-i) .nilIface
theorem clA(o:Loc)(l:List ItN):bpY o l 0=List.replicate l.length .nilIface:=by simp[bpY]
theorem ckZ(o:Loc)(l:List ItN):bpY o l l.length=(l.map (aeL o)).map Pc.av:=by simp[bpY]
theorem cbA(o:Loc)(l:List ItN)(h:i≤l.length):(bpY o l i).length=l.length:=by simp[bpY];omega
theorem caZ(o:Loc){l:List ItN}(h:i<l.length){p:Pc}(hp:aeL o l[i]=p):putRow (bpY o l i) (0+((i:Nat):Int).toNat*1) [p.av]=bpY o l (i+1):=by
 rw[show 0+((i:Nat):Int).toNat*1=i by omega];unfold bpY;rw[show l.length-i=(l.length-(i+1))+1 by omega,eY,←cI h,eS,bK];simp only[dX,List.map_nil,eE,cH,hp];unfold putRow;have e:((l.take i).map λx=>(aeL o x).av).length=i:=by simp;omega
 rw[dU aA,aY aA,aW,bG,fF,e,cS aA];simp
theorem bqU(h:i<o.length):afY (o.take (i+1))=afY (o.take i)++(o.getD i (.fx [])).txt:=by
 unfold afY;rw[←cI h,eS,List.flatten_append,aP,aX h];simp
theorem cfN(o:List Pc)(i:Nat):(afY (o.take i)).length≤(afY o).length:=by
 have:afY o=afY (o.take i)++afY (o.drop i):=by unfold afY;rw[←List.flatten_append,←eS,cK]
 rw[this,aO];omega
theorem aeG{n:Nat}(h:n≤1000000000):n≤maxLen:=by rw[zQ];omega
def aqU(b n:Nat)(pcs:List Pc)(H:Heap):Nat→Env→Heap→Prop:=λk env H1=>∃i:Nat,i≤n∧env=[(3,.str (afY (pcs.take i))),(11,.mslice (some ⟨b,0,none⟩) n n),(12,.int .i64 (n:Int)),(13,.int .i64 (i:Int))]∧H=H1∧k=n-i
theorem aqT(l:List ItN)(gr:Bool)(sc:Int)(o:Loc)(b n:Nat)(pcs:List Pc)(hnn:pcs.length=n)(hn:n≤100000)(ht:(afY pcs).length≤1000000000)(H:Heap)(hb:H.objs b=some (pcR pcs)):ACall prog 41 [.iptr (shC l gr sc o b n)] H (λy H'=>y= .str (afY pcs)∧H'=H):=by
 refine ACall.of_body func41 rfl ntmps41 results41 rfl ?_;iterate 15 refine AX ?_
 refine .p rfl (zA U89 rfl Z87 (tm rfl)) ?_;iterate 6 refine AX ?_
 refine AWP.loopW (aqU b n pcs H) (n) ⟨0,Nat.zero_le _,rfl,rfl,rfl⟩ sX (hRa _) ?_;rintro _ _ _ ⟨i,hi,rfl,rfl,rfl⟩;iterate 6 refine AX ?_
 refine AWP.cond (tm rfl) (λhc14=>?_) (λhc14=>?_)
 ·try simp only[aL]at hc14
  iterate 3 refine AX ?_
  refine .block (.seq (.region (.p rfl (qL U87 Z147 (tm rfl) (tm rfl) aA aA) (.e rfl (blQ Pc.av (.fx []) i isAgg147 (tm rfl) hb aA aA) ?_))));have hnx:=bqU (o:=pcs) (i:=i) aA;have hle:=cfN pcs (i+1);rw[hnx,aO]at hle;generalize pcs.getD i (.fx [])=p at *;have htx:=p.txt_eq;iterate 11 refine AX ?_
  refine .p rfl (bsW (tm rfl)) ?_;iterate 4 refine AX ?_
  refine AWP.cond (tm rfl) (λhc19=>?_) (λhc19=>?_)
  ·try simp only[aL]at hc19
   iterate 2 refine AX ?_
   refine .s rfl (adK V145 (zr145)) ?_;rintro _ _ ⟨b6,hb6,rfl,hH⟩;obtain rfl:=hH.symm;refine .e0 (zL sizeOf145 (tm rfl) (tm rfl) rfl rfl (.inr ⟨_,rfl⟩) (oS _ _ _) (lB rfl)) ?_;try first|rw[sS]|rw[sU aB]
   iterate 2 refine AX ?_
   refine AWP.frz (t:=6) rfl (hb6) ?_;iterate 2 refine AX ?_
   refine .p rfl (zA U145 rfl Z9 (tm rfl)) ?_;refine AX ?_;refine .p rfl (zY (tm rfl) (tm rfl) (by have h:=hle;rw[htx,aN hc19]at h;simp only at *;exact aeG aA)) ?_;iterate 10 refine AX ?_
   refine Round.mk (J:=aqU b n pcs H) ⟨i+1,by omega,rfl,rfl,rfl⟩ (zR rfl (by rw[hnx,htx];first|(rw[aN hc19]<;>rfl)|(rw[aM (by rw[hc19];simp),aN hc30]<;>rfl)|(rw[aM (by rw[hc19];simp),aM hc30,aN hc37]<;>rfl)|(rw[aM (by rw[hc19];simp),aM hc30,aM hc37,bU]<;>rfl)) sX) (hRa _) aA
  try simp only[aL]at hc19
  iterate 2 refine AX ?_
  refine .p rfl (bsV (tm rfl)) ?_;iterate 4 refine AX ?_
  refine AWP.cond_true (tm rfl) (by rw[show p.fxB=false from hc19];rfl) ?_;iterate 2 refine AX ?_
  refine .s rfl (adK V183 (zr183)) ?_;rintro _ _ ⟨b7,hb7,rfl,hH⟩;obtain rfl:=hH.symm;refine .e0 (zL sizeOf183 (tm rfl) (tm rfl) rfl rfl (.inr ⟨_,rfl⟩) (oS _ _ _) (lB rfl)) ?_;try first|rw[sS]|rw[sU aB]
  iterate 2 refine AX ?_
  refine AWP.frz (t:=7) rfl (hb7) ?_;iterate 2 refine AX ?_
  refine .p rfl (zA U183 rfl Z9 (tm rfl)) ?_;iterate 10 refine AX ?_
  refine AWP.cond (tm rfl) (λhc30=>?_) (λhc30=>?_)
  ·try simp only[aL]at hc30
   iterate 2 refine AX ?_
   refine .p rfl (zA U183 rfl Z9 (tm rfl)) ?_;refine AX ?_;refine .p rfl (zY (zO rfl) (tm rfl) (by have h:=hle;rw[htx,aM (by rw[hc19];simp),aN hc30]at h;simp only[aW,bG]at *;exact aeG aA)) ?_;refine .p rfl (zY (tm rfl) (tm rfl) (by have h:=hle;rw[htx,aM (by rw[hc19];simp),aN hc30]at h;simp only[aO,aW,bG]at *;exact aeG aA)) ?_;iterate 11 refine AX ?_
   refine Round.mk (J:=aqU b n pcs H) ⟨i+1,by omega,rfl,rfl,rfl⟩ (zR rfl (by rw[hnx,htx];first|(rw[aN hc19]<;>rfl)|(rw[aM (by rw[hc19];simp),aN hc30]<;>rfl)|(rw[aM (by rw[hc19];simp),aM hc30,aN hc37]<;>rfl)|(rw[aM (by rw[hc19];simp),aM hc30,aM hc37,bU]<;>rfl)) sX) (hRa _) aA
  try simp only[aL]at hc30
  iterate 6 refine AX ?_
  refine AWP.cond (tm rfl) (λhc37=>?_) (λhc37=>?_)
  ·try simp only[aL]at hc37
   iterate 2 refine AX ?_
   refine .p rfl (zY (tm rfl) (zO rfl) (by have h:=hle;rw[htx,aM (by rw[hc19];simp),aM hc30,aN hc37]at h;simp only[aW,bG]at *;exact aeG aA)) ?_;iterate 11 refine AX ?_
   refine Round.mk (J:=aqU b n pcs H) ⟨i+1,by omega,rfl,rfl,rfl⟩ (zR rfl (by rw[hnx,htx];first|(rw[aN hc19]<;>rfl)|(rw[aM (by rw[hc19];simp),aN hc30]<;>rfl)|(rw[aM (by rw[hc19];simp),aM hc30,aN hc37]<;>rfl)|(rw[aM (by rw[hc19];simp),aM hc30,aM hc37,bU]<;>rfl)) sX) (hRa _) aA
  try simp only[aL]at hc37
  iterate 10 refine AX ?_
  refine Round.mk (J:=aqU b n pcs H) ⟨i+1,by omega,rfl,rfl,rfl⟩ (zR rfl (by rw[hnx,htx];first|(rw[aN hc19]<;>rfl)|(rw[aM (by rw[hc19];simp),aN hc30]<;>rfl)|(rw[aM (by rw[hc19];simp),aM hc30,aN hc37]<;>rfl)|(rw[aM (by rw[hc19];simp),aM hc30,aM hc37,bU]<;>rfl)) sX) (hRa _) aA
 try simp only[aL]at hc14
 iterate 12 refine AX ?_
 refine Ret.go (.cons (.tmp _ _ rfl) .nil) _ (hRa _) ?_;have hil:i=pcs.length:=by omega
 subst hil;rw[cX];exact⟨rfl,rfl⟩
def bdP(l:List ItN)(k:Int)(s:List UInt8)(i:Nat)(o:List Pc):List Pc:=o.mapIdx λj p=>if j<i∧abS l j=k then .fx s else p
theorem clP(l:List ItN)(k:Int)(s:List UInt8)(o:List Pc):bdP l k s 0 o=o:=by
 unfold bdP;refine gW aF λj h1 h2=>?_;rw[eQ,aJ]
theorem anI(l:List ItN)(k:Int)(s:List UInt8)(i:Nat)(o:List Pc):(bdP l k s i o).length=o.length:=List.length_mapIdx
theorem bkU{l:List ItN}{k:Int}{s:List UInt8}(h:¬abS l i=k):bdP l k s (i+1) o=bdP l k s i o:=by
 unfold bdP;refine gW aF λj h1 h2=>?_;rw[eQ,eQ];by_cases q:j=i
 ·subst q;rw[aM (λz=>h z.2),aJ]
 by_cases c:j<i∧abS l j=k
 ·rw[aN ⟨by omega,c.2⟩,aN c]
 rw[aM (λz=>c ⟨by omega,z.2⟩),aM c]
theorem bkT{l:List ItN}{k:Int}{s:List UInt8}(h:abS l i=k):(bdP l k s i o).set i (.fx s)=bdP l k s (i+1) o:=by
 unfold bdP;refine gW aF λj h1 h2=>?_;rw[List.getElem_set,eQ,eQ];by_cases q:i=j
 ·subst q;rw[aN rfl,aN ⟨by omega,h⟩]
 rw[aM q];by_cases c:j<i∧abS l j=k
 ·rw[aN c,aN ⟨by omega,c.2⟩]
 rw[aM c,aM (λz=>c ⟨by omega,z.2⟩)]
theorem aaF{l:List ItN}(h:i<l.length):abS l i=l[i].kind:=by unfold abS;rw[asJ h]
def bsO(l:List ItN)(gr:Bool)(sc:Int)(o:Loc)(b n:Nat)(pcs:List Pc)(k0:Int)(s:List UInt8)(H:Heap):Nat→Env→Heap→Prop:=λk env H1=>∃i:Nat,i≤l.length∧env=[(0,.iptr (shC l gr sc o b n)),(1,.int .i64 k0),(2,.str s),(12,itS l .shared),(13,.int .i64 (l.length:Int)),(14,.int .i64 (i:Int))]∧H1=H.set b (pcR (bdP l k0 s i pcs))∧k=l.length-i
theorem anT(l:List ItN)(gr:Bool)(sc:Int)(o:Loc)(b n:Nat)(pcs:List Pc)(hn:pcs.length=l.length)(hnl:n=l.length)(hl:l.length≤100000)(k0:Int)(s:List UInt8)(H:Heap)(hb:H.objs b=some (pcR pcs)):ACall prog 36 [.iptr (shC l gr sc o b n),.int .i64 k0,.str s] H (λ_ H'=>H'=H.set b (pcR (bdP l k0 s l.length pcs))):=by
 refine ACall.of_body func36 rfl ntmps36 results36 rfl ?_;iterate 4 refine AX ?_
 refine .p rfl (zA U89 rfl Z52 (tm rfl)) (.p rfl (zA U52 rfl Z50 (tm rfl)) ?_);iterate 6 refine AX ?_
 refine AWP.loopW (bsO l gr sc o b n pcs k0 s H) (l.length) ⟨0,Nat.zero_le _,rfl,by rw[clP];exact(Heap.set_self hb).symm,rfl⟩ sX (hRa _) ?_;rintro _ _ _ ⟨i,hi,rfl,rfl,rfl⟩;iterate 6 refine AX ?_
 refine AWP.cond (tm rfl) (λhc15=>?_) (λhc15=>?_)
 ·try simp only[aL]at hc15
  iterate 9 refine AX ?_
  refine .al zr57 (λb7 hb7=>?_);refine AX ?_;refine .e0 (zL Z57 (tm rfl) (tm rfl) rfl rfl (.inr ⟨_,rfl⟩) (oS _ _ _) (lB rfl)) ?_;try first|rw[sS]|rw[sU aB]
  iterate 2 refine AX ?_
  refine AWP.frz (t:=7) rfl (hb7) ?_;iterate 2 refine AX ?_
  refine .p rfl (zA U57 rfl Z3 (tm rfl)) ?_;iterate 5 refine AX ?_
  refine AWP.cond (tm rfl) (λhc22=>?_) (λhc22=>?_)
  ·try simp only[aL]at hc22
   iterate 3 refine AX ?_
   refine .p rfl (zA U89 rfl Z87 (tm rfl)) ?_;refine AX ?_;refine .mv rfl rfl (.mv rfl rfl (.p rfl (yY [(0,1)] U145 V145 (zr145) rfl (pl145 _ U145) (.cons (tm rfl) (.inl rfl) .nil) rfl) (.p rfl (aaT U145 rfl (tm rfl)) (.p rfl (qL U87 Z147 (tm rfl) (tm rfl) aA aA) (.e0 (aaN Pc.av (.fx s) i Z147 (tm rfl) (tm rfl) rfl rfl (oS _ _ _) aA (by rw[anI];omega)) ?_)))));rw[sS];iterate 8 refine AX ?_
   refine Round.mk (J:=bsO l gr sc o b n pcs k0 s H) ⟨i+1,by omega,rfl,by first|exact congrArg (λz=>H.set b (pcR z)) (bkT ((aaF aA).trans hc22))|(rw[bkU (i:=i) (λq=>hc22 ((aaF (i:=i) aA).symm.trans q))]),rfl⟩ sX (hRa _) aA
  try simp only[aL]at hc22
  iterate 8 refine AX ?_
  refine Round.mk (J:=bsO l gr sc o b n pcs k0 s H) ⟨i+1,by omega,rfl,by first|exact congrArg (λz=>H.set b (pcR z)) (bkT ((aaF aA).trans hc22))|(rw[bkU (i:=i) (λq=>hc22 ((aaF (i:=i) aA).symm.trans q))]),rfl⟩ sX (hRa _) aA
 try simp only[aL]at hc15
 iterate 4 refine AX ?_
 refine Ret.go' .nil _ (hRa _) ?_;have hil:i=l.length:=by omega
 subst hil;rfl
def arB(l:List ItN)(gr:Bool)(sc:Int)(o:Loc)(b:Nat)(H:Heap):Nat→Env→Heap→Prop:=λk env H1=>∃i:Nat,i≤l.length∧env=[(3,.iptr (pL o (szA o)).cells),(5,.iptr (shC l gr sc o b l.length)),(17,itS l .shared),(18,.int .i64 (l.length:Int)),(19,.int .i64 (i:Int))]∧H1=H.set b (.box 147 (bpY o l i))∧k=l.length-i
theorem agZ{dst:Option Tmp}{ty:TypeId}{pos:String}{af:Array Go.Edge}{gd:Option (Nat×Bool)}{env:Env}{H:Heap}{q:Operand}{b:Nat}(o:Loc){l:List ItN}(p:Pc)(hp:Ev env q (.ptr (some ⟨b,0+((i:Nat):Int).toNat*1,none⟩)))(hx:Ev env x p.av)(hb:H.objs b=some (.box 147 (bpY o l i)))(h:i<l.length)(hl:aeL o l[i]=p):
  AStep prog ⟨dst,.store 147 q x,ty,pos,af,gd⟩ env H (λz H'=>z= .raw undef∧H'=H.set b (.box 147 (bpY o l (i+1)))):=by
 have hh:=zL (P:=prog) (dst:=dst) (ty:=ty) (pos:=pos) (af:=af) (gd:=gd) Z147 hp hx (by rw[p.one.2];simp[p.one.1]) (by rw[p.one.2];rfl) (.inl p.one.1) hb (by rw[cbA o l aA];omega);rw[p.one.2,caZ o h hl]at hh;exact hh
theorem avD(l:List ItN)(gr:Bool)(sc:Int)(o:Loc)(hl:l.length≤100000)(H:Heap):ACall prog 32 [.agg [itS l .shared,.bool gr,.int .i64 sc],pL o (szA o)] H (λy H'=>∃b,y= .iptr (shC l gr sc o b l.length)∧H.objs b=none∧H'=H.set b (pcR (l.map (aeL o)))):=by
 refine .of_body func32 rfl ntmps32 results32 rfl ?_;iterate 4 refine AX ?_
 refine .p rfl (zE anB) ?_;iterate 3 refine AX ?_
 refine .draw [(0,true),(1,true),(2,true),(3,true),(4,true),(5,false),(6,true),(7,true),(8,true)] rfl aE ?_;iterate 2 refine AX ?_
 refine .p rfl rfl (zA U52 rfl Z50 (tm rfl)) ?_;iterate 2 refine AX ?_
 refine .s rfl rfl (aqJ (m:=l.length) U87 typeInfo147 Z147 zeroValue147 (tm rfl) (tm rfl) aC aA) ?_;rintro _ _ ⟨b,rfl,hb,hH⟩;obtain rfl:=hH.symm;refine .p rfl rfl (yU zr89 pl89 (.cons (tm rfl) (.inr ⟨_,rfl⟩) (.cons (tm rfl) (.inr ⟨_,rfl⟩) (.cons (tm rfl) (.inl rfl) .nil))) rfl) ?_;refine .f rfl rfl (λ_=>acJ (tm rfl) (.inr ⟨_,rfl⟩)) ?_;iterate 6 refine AX ?_
 refine .p rfl (zA U52 rfl Z50 (tm rfl)) ?_;iterate 6 refine AX ?_
 refine .loopW (arB l gr sc o b H) (l.length) ⟨0,Nat.zero_le _,rfl,by rw[clA],rfl⟩ sX (hRa _) ?_;rintro _ _ _ ⟨i,hi,rfl,rfl,rfl⟩;iterate 6 refine AX ?_
 refine .cx rfl (λhc20=>?_) (λhc20=>?_)
 ·iterate 9 refine AX ?_
  refine .al zr57 (λb7 hb7=>?_);iterate 4 refine AX ?_
  refine .frz (t:=7) rfl (hb7) ?_;iterate 2 refine AX ?_
  refine .p rfl (zA U57 rfl Z3 (tm rfl)) ?_;iterate 10 refine AX ?_
  refine .cx rfl (λhc34=>?_) (λhc34=>?_)
  ·refine .draw [(0,true),(1,true),(2,true),(3,true),(4,true),(5,true),(6,true),(7,true),(8,true),(9,true),(10,false)] rfl aE ?_;iterate 2 refine AX ?_
   refine .p rfl rfl (zA U89 rfl Z87 (tm rfl)) ?_;iterate 2 refine AX ?_
   refine .p rfl rfl (zA U57 rfl Z9 (tm rfl)) ?_;refine AX ?_;refine .p rfl rfl (yY [(0,1)] U145 V145 (zr145) rfl (pl145 _ U145) (.cons (tm rfl) (.inl rfl) .nil) rfl) ?_;iterate 2 refine AX ?_
   refine .s0 rfl (agZ o (.fx l[i].text) (tm rfl) (tm rfl) (oS _ _ _) (show i<l.length by omega) (by unfold aeL;rw[aN (by exact hc34)])) ?_;rintro _ _ ⟨rfl,hH⟩;obtain rfl:=hH.symm;rw[sS];iterate 9 refine AX ?_
   refine Round.mk ⟨i+1,by omega,rfl,rfl,rfl⟩ sX (hRa _) aA
  iterate 6 refine AX ?_
  refine .cx rfl (λhc46=>?_) (λhc46=>?_)
  ·refine .draw [(0,true),(1,true),(2,true),(3,true),(4,true),(5,true),(6,true),(7,true),(8,true),(9,true),(10,false)] rfl aE ?_;iterate 2 refine AX ?_
   refine .p rfl rfl (zA U89 rfl Z87 (tm rfl)) ?_;iterate 2 refine AX ?_
   refine .p rfl rfl (zA U32 rfl Z9 (tm rfl)) ?_;refine AX ?_;refine .p rfl rfl (yY [(0,1)] U145 V145 (zr145) rfl (pl145 _ U145) (.cons (tm rfl) (.inl rfl) .nil) rfl) ?_;iterate 2 refine AX ?_
   refine .s0 rfl (agZ o (.fx o.cur) (tm rfl) (tm rfl) (oS _ _ _) (show i<l.length by omega) (by unfold aeL;rw[aM (by exact hc34),aN (by exact hc46)])) ?_;rintro _ _ ⟨rfl,hH⟩;obtain rfl:=hH.symm;rw[sS];iterate 9 refine AX ?_
   refine Round.mk ⟨i+1,by omega,rfl,rfl,rfl⟩ sX (hRa _) aA
  iterate 6 refine AX ?_
  refine .cx rfl (λhc58=>?_) (λhc58=>?_)
  ·refine .draw [(0,true),(1,true),(2,true),(3,true),(4,true),(5,true),(6,true),(7,true),(8,true),(9,true),(10,false)] rfl aE ?_;iterate 2 refine AX ?_
   refine .p rfl rfl (zA U89 rfl Z87 (tm rfl)) ?_;iterate 2 refine AX ?_
   refine .p rfl rfl (zA U32 rfl Z9 (tm rfl)) ?_;refine AX ?_;refine .p rfl rfl (yY [(0,1)] U145 V145 (zr145) rfl (pl145 _ U145) (.cons (tm rfl) (.inl rfl) .nil) rfl) ?_;iterate 2 refine AX ?_
   refine .s0 rfl (agZ o (.fx o.pct) (tm rfl) (tm rfl) (oS _ _ _) (show i<l.length by omega) (by unfold aeL;rw[aM (by exact hc34),aM (by exact hc46),aN (by exact hc58)])) ?_;rintro _ _ ⟨rfl,hH⟩;obtain rfl:=hH.symm;rw[sS];iterate 9 refine AX ?_
   refine Round.mk ⟨i+1,by omega,rfl,rfl,rfl⟩ sX (hRa _) aA
  iterate 6 refine AX ?_
  refine .cx rfl (λhc70=>?_) (λhc70=>?_)
  ·refine .draw [(0,true),(1,true),(2,true),(3,true),(4,true),(5,true),(6,true),(7,true),(8,true),(9,true),(10,false)] rfl aE ?_;iterate 2 refine AX ?_
   refine .p rfl rfl (zA U89 rfl Z87 (tm rfl)) ?_;iterate 2 refine AX ?_
   refine .p rfl rfl (zA U32 rfl Z9 (tm rfl)) ?_;refine AX ?_;refine .p rfl rfl (yY [(0,1)] U145 V145 (zr145) rfl (pl145 _ U145) (.cons (tm rfl) (.inl rfl) .nil) rfl) ?_;iterate 2 refine AX ?_
   refine .s0 rfl (agZ o (.fx o.dc) (tm rfl) (tm rfl) (oS _ _ _) (show i<l.length by omega) (by unfold aeL;rw[aM (by exact hc34),aM (by exact hc46),aM (by exact hc58),aN (by exact hc70)])) ?_;rintro _ _ ⟨rfl,hH⟩;obtain rfl:=hH.symm;rw[sS];iterate 9 refine AX ?_
   refine Round.mk ⟨i+1,by omega,rfl,rfl,rfl⟩ sX (hRa _) aA
  iterate 6 refine AX ?_
  refine .cx rfl (λhc82=>?_) (λhc82=>?_)
  ·iterate 3 refine AX ?_
   refine .p rfl (zA U89 rfl Z87 (tm rfl)) ?_;iterate 2 refine AX ?_
   refine .p rfl (yY [(0,1)] U145 V145 (zr145) rfl (pl145 _ U145) (.cons (zO rfl) (.inl rfl) .nil) rfl) ?_;iterate 2 refine AX ?_
   refine .e0 (agZ o (.fx [47]) (tm rfl) (tm rfl) (oS _ _ _) (show i<l.length by omega) (by unfold aeL;rw[aM (by exact hc34),aM (by exact hc46),aM (by exact hc58),aM (by exact hc70),aN (by exact hc82)])) ?_;rw[sS];iterate 9 refine AX ?_
   refine Round.mk ⟨i+1,by omega,rfl,rfl,rfl⟩ sX (hRa _) aA
  iterate 3 refine AX ?_
  refine .p rfl (zA U89 rfl Z87 (tm rfl)) ?_;iterate 2 refine AX ?_
  refine .p rfl (yY [(0,1)] U145 V145 (zr145) rfl (pl145 _ U145) .nil rfl) ?_;iterate 2 refine AX ?_
  refine .e0 (agZ o (.fx []) (tm rfl) (tm rfl) (oS _ _ _) (show i<l.length by omega) (by unfold aeL;rw[aM (by exact hc34),aM (by exact hc46),aM (by exact hc58),aM (by exact hc70),aM (by exact hc82)])) ?_;rw[sS];iterate 9 refine AX ?_
  refine Round.mk ⟨i+1,by omega,rfl,rfl,rfl⟩ sX (hRa _) aA
 iterate 13 refine AX ?_
 have hil:i=l.length:=by omega
 subst hil;exact⟨b,rfl,hb,by rw[ckZ];rfl⟩
end
section
open Go Go.RowKit
set_option maxRecDepth 100000
theorem auN(h:∀p,p∈o→p.txt.length≤m):(afY o).length≤o.length*m:=by
 unfold afY;induction o with
 |nil=>simp
 |cons p o ih=>
  have h1:=h p aF;have h2:=ih (λq hq=>h q (by simp[hq]));simp only[dX,List.flatten_cons,aO,aW,bY];omega
theorem byS(s:List UInt8):baQ s≤4:=by
 obtain⟨h1,h2,h3,_⟩:=biJ s;by_cases q:(dgo s).2=0∨(dgo s).1=65533∧(dgo s).2=1
 ·rw[h1 q];omega
 rw[h2 q];exact h3
theorem cgU{x:ItN}(h:ajZ x=true):x.text.length≤4:=by
 unfold ajZ at h;split at h
 ·have h:=of_decide_eq_true h;have:=byS x.text;omega
 split at h
 ·rcases of_decide_eq_true h with e|e|e<;>rw[e]<;>simp
 split at h
 ·rcases of_decide_eq_true h with e|e<;>rw[e]<;>simp
 rw[(of_decide_eq_true h).2.2];simp
theorem buS{o:Loc}(ho:o.ok){x:ItN}(hx:ajZ x=true):(aeL o x).txt.length≤10:=by
 have h:=cgU hx;obtain⟨h1,h2,h3,h4,h5⟩:=ho;unfold aeL
 repeat' split
 all_goals (simp only[Pc.txt];first|omega|simp)
theorem baU{p:List SecN}(h:aeP p=true){s:SecN}(hs:s∈p):s.items.length≤100∧s.items.all ajZ=true∧yH s≠0:=by
 unfold aeP at h;rw[bN,aT,fU]at h;obtain⟨⟨_,_,h1⟩,h2⟩:=h;obtain⟨i,hi,rfl⟩:=eX hs;have hg:=cjN hi;unfold azR at h2;rw[List.any_eq_false]at h2;have hb:=h2 i (gA.2 hi);rw[akT hi]at hb;have hn:yH p[i]≠0:=λe=>hb (by unfold ccU;rw[e];rfl);refine⟨by omega,?_,hn⟩;cases q:p[i].items.all ajZ with
 |true=>rfl
 |false=>exact absurd (by unfold yH;rw[aN q]) hn
theorem aoF{l:List ItN}{k:Int}{s:List UInt8}{n:Nat}(hs:s.length≤m)(h:∀p,p∈o→p.txt.length≤m):∀p,p∈bdP l k s n o→p.txt.length≤m:=by
 intro p hp;unfold bdP at hp;obtain⟨i,hi,rfl⟩:=eX hp;rw[eQ];split
 ·exact hs
 exact h _ (cF _)
theorem avY{o:Loc}(ho:o.ok){l:List ItN}(h:l.all ajZ=true)(hm:10≤m):∀p,p∈l.map (aeL o)→p.txt.length≤m:=by
 intro p hp;obtain⟨x,hx,rfl⟩:=fW.1 hp;exact bC (buS ho (eD.1 h x hx)) hm
def bcG(p:List SecN):SecN:=atV p (p.length-1)
def cgB(o:Loc)(s:SecN)(x:List UInt8):List UInt8:=afY (bdP s.items 8 x s.items.length (s.items.map (aeL o)))
theorem byM{o:Loc}(ho:o.ok){s:SecN}(h1:s.items.length≤100)(h2:s.items.all ajZ=true){x:List UInt8}(hx:x.length≤1000):(cgB o s x).length≤1000000000:=by
 have h:=auN (aoF (l:=s.items) (k:=8) (n:=s.items.length) hx (avY ho h2 aA));rw[anI,cE]at h;unfold cgB;exact bC h (bC (bD 1000 h1) aC)
def bdW(o:Loc)(p:List SecN)(x:List UInt8):List UInt8×Int:=
 if aeP p=false then([],12)else if p.length<4∧(1<p.length∨yH (bcG p)≠6)then(x,0)else(cgB o (bcG p) x,0)
theorem cbB{p:List SecN}(h:0<p.length):bcG p∈p:=by
 unfold bcG;rw[akT (show p.length-1<p.length by omega)];exact cF _
theorem avE{p:List SecN}(h:aeP p=true):1≤p.length∧p.length≤4:=by
 unfold aeP at h;rw[bN,aT]at h;omega
theorem beY(p:List SecN)(tp:Tail)(hs:∀s,s∈p→s.items.length≤1000)(x:List UInt8)(hx:x.length≤1000)(o:Loc)(ho:o.ok)(H:Heap):ACall prog 14 [.agg [bdM p tp],.str x,pL o (szA o)] H (λy H'=>y= .tuple [.str (bdW o p x).1,.int .i64 (bdW o p x).2]∧H'=H):=by
 refine ACall.of_body func14 rfl ntmps14 results14 rfl ?_;iterate 12 refine AX ?_
 refine .cl rfl call30 (evs1 rfl) (apD _ _ hs _) ?_;iterate 3 refine AX ?_
 refine AWP.cx rfl (λhc13=>?_) (λhc13=>?_)
 ·iterate 9 refine AX ?_
  refine⟨?_,rfl⟩;unfold bdW;rw[aN hc13];rfl
 have hr:aeP p=true:=by simpa using hc13
 obtain⟨hp1,hp4⟩:=avE hr;obtain⟨hl1,hl2,hl3⟩:=baU hr (cbB aA);have hla:p[(((p.length:Nat):Int)-1).toNat]'aA=bcG p:=by
  unfold bcG;rw[akT (show p.length-1<p.length by omega)];congr 1;omega
 iterate 4 refine AX ?_
 refine .p rfl (zA U24 rfl Z22 (tm rfl)) ?_;refine AX ?_;refine .p rfl (zA U24 rfl Z22 (tm rfl)) ?_;iterate 5 refine AX ?_
 refine .s rfl (adK V52 (zr52)) ?_;rintro _ _ ⟨b8,hb8,rfl,hH⟩;obtain rfl:=hH.symm;iterate 3 refine AX ?_
 refine AWP.frz (t:=8) rfl (hb8) ?_;iterate 2 refine AX ?_
 rw[hla];have hle:=λh1 h2=>byM ho (s:=bcG p) (x:=x) h1 h2 hx;generalize hls:bcG p=z at *;obtain⟨l,gr,sc⟩:=z;have hle:=hle hl1 hl2;have hl1:l.length≤100:=hl1;generalize hkk:yH (SecN.mk l gr sc)=kk at *;refine AX ?_;refine .p rfl (zA U24 rfl Z22 (tm rfl)) ?_;iterate 5 refine AX ?_
 refine AWP.seqTo 35 (.bool (decide (p.length<4∧(1<p.length∨kk≠6)))) [1,5,6,7,8] ?_ ?_
 ·iterate 4 refine AX ?_
  refine zD (t:=27) rfl (λhg27=>?_) (λhg27=>?_)
  ·have hh27:=hg27;try simp only[aL]at hh27
   iterate 3 refine AX ?_
   refine zD (t:=30) rfl (λhg30=>?_) (λhg30=>?_)
   ·have hh30:=hg30;try simp only[aL]at hh30
    iterate 6 refine AX ?_
    exact⟨rfl,zS rfl (by(refine Eq.symm ?_;first|((with_reducible refine aQ.2 ?_);(first|omega|simp[*]))|((with_reducible refine aU ?_);(first|omega|simp[*]))|((with_reducible refine aS ?_);(first|omega|simp[*])))) sX,rfl⟩
   have hh30:=hg30;try simp only[aL]at hh30
   refine AX ?_;refine .gs rfl rfl rfl aB (zB call35 (evs1 rfl) (alT l gr sc _ aA _)) ?_;rintro _ _ ⟨rfl,hH⟩;obtain rfl:=hH.symm;rw[hkk];iterate 4 refine AX ?_
   exact⟨rfl,zS rfl (by(refine Eq.symm ?_;first|((with_reducible refine aQ.2 ?_);(first|omega|simp[*]))|((with_reducible refine aU ?_);(first|omega|simp[*]))|((with_reducible refine aS ?_);(first|omega|simp[*])))) sX,rfl⟩
  have hh27:=hg27;try simp only[aL]at hh27
  iterate 9 refine AX ?_
  exact⟨rfl,zS rfl (by(refine Eq.symm ?_;first|((with_reducible refine aQ.2 ?_);(first|omega|simp[*]))|((with_reducible refine aU ?_);(first|omega|simp[*]))|((with_reducible refine aS ?_);(first|omega|simp[*])))) sX,rfl⟩
 refine AWP.sub [(35,_),(1,_),(5,_),(6,_),(7,_),(8,_)] sX ?_;refine AWP.cx rfl (λhc35=>?_) (λhc35=>?_)
 ·iterate 10 refine AX ?_
  refine⟨?_,rfl⟩;unfold bdW;rw[aM (by rw[hr];simp),hls,hkk,aN hc35];rfl
 iterate 6 refine AX ?_
 refine .s rfl (zB call32 (evs2 rfl rfl) (avD l gr sc o aA _)) ?_;rintro _ _ ⟨b,rfl,hb,rfl⟩;iterate 7 refine AX ?_
 refine .s rfl (zB call36 (.cons (tm rfl) (.cons zJ (evs1 rfl))) (anT l gr sc o b l.length (l.map (aeL o)) (by rw[cE]) rfl aA 8 x _ (oS _ _ _))) ?_;rintro _ _ rfl;rw[sS];iterate 5 refine AX ?_
 refine .cl rfl call41 (evs1 rfl) (aqT l gr sc o b l.length _ (by rw[anI,cE]) aA hle _ (oS _ _ _)) ?_;iterate 5 refine AX ?_
 refine Ret.go (.cons (.tmp _ _ rfl) (.cons (.tmp _ _ rfl) .nil)) H (Heap.le_set hb _) ?_;refine⟨?_,rfl⟩;unfold bdW;rw[aM (by rw[hr];simp),hls,hkk,aM hc35];rfl
end
end Go.Proofs.YteedncdcbgplfaaGreatDoor
