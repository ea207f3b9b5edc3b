import Derived.Test.YteedncdcbgplfaaGreatDoorJ5
import Derived.Test.YteedncdcbgplfaaGreatDoorLgk
set_option maxHeartbeats 1000000
namespace Go.Proofs.YteedncdcbgplfaaGreatDoor
open Go.Proofs.Tryz
open Go Go.RowKit
variable{i m:Nat}{x:Operand}
inductive Pc where
 |fx (s:List UInt8)
 |hl (sign mark:List UInt8)
variable{o:List Pc}
def Pc.txt:Pc→List UInt8
 | .fx s=>s
 | .hl sg mk=>if sg=[48]then 48::mk else if sg=[63]then [32]else []
def acV(l:Loc)(x:ItN):Pc:=
 if x.kind=1 then .fx x.text else if x.kind=9 then .fx l.cur else if x.kind=4 then .fx l.pct else if x.kind=3 then .fx l.dc else if x.kind=6 then .fx [47]else .fx []
def adM(o:List Pc):List UInt8:=(o.map Pc.txt).flatten
def aaJ(l:List ItN)(i:Nat):Int:=(l.getD i ⟨0,[]⟩).kind
def afZ(l:List ItN)(i:Nat):List UInt8:=(l.getD i ⟨0,[]⟩).text
def aeY(l:List ItN)(a b:Nat):List Nat:=(List.range b).filter λi=>decide (a≤i)&&decide (aaJ l i=2)
theorem awW(l:List ItN){a:Nat}(h:a≤i):aeY l a (i+1)=aeY l a i++(if aaJ l i=2 then [i]else []):=by
 unfold aeY;rw[List.range_succ,List.filter_append];by_cases q:aaJ l i=2<;>simp[h,q]
theorem bjX(l:List ItN)(a:Nat):aeY l a a=[]:=by
 unfold aeY;rw[List.filter_eq_nil_iff];intro i hi;have:=eK.1 hi;simp;omega
theorem abJ{l:List ItN}{a b:Nat}:i∈aeY l a b↔i<b∧a≤i∧aaJ l i=2:=by
 unfold aeY;rw[List.mem_filter,eK];simp
theorem acC(l:List ItN)(a b:Nat):(aeY l a b).length≤b:=by
 unfold aeY;exact bK (List.length_filter_le _ _) aF
def aaW(l:Loc)(g:Bool)(k:Nat):List UInt8:=if g=true∧3≤k∧(k-3)%l.second=0 then l.grp else []
def baG(mk:Nat→List UInt8):List UInt8→Nat→List UInt8
 | [],_=>[]
 |x::r,last=>x::mk (last+r.length)++baG mk r last
def aiP(row:List UInt8)(fst:Bool)(n:Nat):List UInt8:=(row.take (row.length-n)).drop (if fst then 0 else row.length-1-n)
def aaY(l:List ItN)(mk:Nat→List UInt8)(row:List UInt8):Bool→Bool→List Nat→List Pc→List Pc
 |_,_,[],o=>o
 |fst,z,k::r,o=>
  aaY l mk row false (z||decide (afZ l k=[48])) r (o.set k (if row.length≤r.length then .hl (if(z||decide (afZ l k=[48]))=true then [48]else afZ l k) (mk r.length)else .fx (baG mk (aiP row fst r.length) r.length)))
def aeM(l:List ItN):Nat→List Nat→Nat→Nat
 |_,[],m=>m
 |i,k::r,m=>aeM l (i+1) r (if afZ l k=[48]then max m (i+1)else m)
def qV(l:List ItN)(row:List UInt8)(last:Nat):Nat→List Nat→List Pc→List Pc
 |_,[],o=>o
 |i,k::r,o=>qV l row last (i+1) r (o.set k (if i<last then .fx [row.getD i 0]else .hl (afZ l k) []))
def aeB(row:List UInt8):Nat:=(row.reverse.dropWhile (·==48)).length
section
open Go Go.RowKit
set_option maxRecDepth 100000
theorem zr89:ZR 89 [.slice 2 [] .full,.bool false,.int .i64 0,.str [],.str [],.str [],.str [],.str [],.str [],.str [],.bool false,.bool false,.slice 1 [] .full,.slice 1 [] .full]:=ZRi zeroValue89
theorem pl89:PL 89 [(0,3),(3,10),(13,1)]:=PLi U89
theorem zr145:∀g,RelCells g [.str []] (Value.cells (Go.Value.agg #[Go.Value.string {data:= #[]}])):=λg=>RelL.cells (.cons ((.str [] (Nat.zero_le _))) .nil)
theorem pl145(fs:Array Field)(hfs:prog.underlying 145=some (.struct fs)):∀(i:Nat) f p,fs[i]?=some f→[(0,1)][i]?=some p→∀w,(sizeOf f.type).run prog w= .ok p.2 w:=by
 have e:=(Option.some.inj (hfs.symm.trans U145));cases e
 intro i f p hf hp w
 match i with
 |0=>cases hf;cases hp;exact Z9 w
 |i+1=>simp at hp
theorem zr183:∀g,RelCells g [.str [],.str []] (Value.cells (Go.Value.agg #[Go.Value.string {data:= #[]},Go.Value.string {data:= #[]}])):=λg=>RelL.cells (.cons ((.str [] (Nat.zero_le _))) (.cons ((.str [] (Nat.zero_le _))) .nil))
theorem pl183(fs:Array Field)(hfs:prog.underlying 183=some (.struct fs)):∀(i:Nat) f p,fs[i]?=some f→[(0,1),(1,1)][i]?=some p→∀w,(sizeOf f.type).run prog w= .ok p.2 w:=by
 have e:=(Option.some.inj (hfs.symm.trans U183));cases e
 intro i f p hf hp w
 match i with
 |0=>cases hf;cases hp;exact Z9 w
 |1=>cases hf;cases hp;exact Z9 w
 |i+2=>simp at hp
def Pc.av:Pc→AV
 | .fx s=>.iface 145 (.agg [.str s])
 | .hl a b=>.iface 183 (.agg [.str a,.str b])
theorem Pc.one(p:Pc):p.av.one=true∧p.av.cells=[p.av]:=by cases p<;>exact⟨rfl,rfl⟩
def Pc.fxB:Pc→Bool| .fx _=>true| .hl _ _=>false
def Pc.fxT:Pc→List UInt8| .fx s=>s| .hl _ _=>[]
def Pc.hlA:Pc→List UInt8| .fx _=>[]| .hl a _=>a
def Pc.hlB:Pc→List UInt8| .fx _=>[]| .hl _ b=>b
theorem Pc.txt_eq(p:Pc):p.txt=if p.fxB=true then p.fxT else if p.hlA=[48]then 48::p.hlB else if p.hlA=[63]then [32]else []:=by
 cases p with
 |fx s=>rfl
 |hl a b=>rfl
section
variable{dst:Option Tmp}{ty:TypeId}{pos:String}{af:Array Go.Edge}{gd:Option (Nat×Bool)}{env:Env}
theorem bcM{X:TypeId}{p:Pc}(hx:Ev env x p.av):APure prog ⟨dst,.typeAssert x X 145 true,ty,pos,af,gd⟩ env (.tuple [.agg [.str p.fxT],.bool p.fxB]):=by
 cases p with
 |fx s=>exact ajD U145 rfl hx
 |hl a b=>exact ajE U145 rfl V145 (λg=>.agg _ _ rfl (zr145 g).2) rfl hx
theorem bcL{X:TypeId}{p:Pc}(hx:Ev env x p.av):APure prog ⟨dst,.typeAssert x X 183 true,ty,pos,af,gd⟩ env (.tuple [.agg [.str p.hlA,.str p.hlB],.bool !p.fxB]):=by
 cases p with
 |fx s=>exact ajE U183 rfl V183 (λg=>.agg _ _ rfl (zr183 g).2) rfl hx
 |hl a b=>exact ajD U183 rfl hx
end
def shC(l:List ItN)(gr:Bool)(sc:Int)(o:Loc)(b n:Nat):List AV:=[itS l .shared,.bool gr,.int .i64 sc]++(pL o (szA o)).cells++[.mslice (some ⟨b,0,none⟩) n n]
def pcR(o:List Pc):AObj:=.box 147 (o.map Pc.av)
def baJ(o:Loc)(l:List ItN)(i:Nat):List AV:=((l.take i).map λx=>(acV o x).av)++List.replicate (l.length-i) .nilIface
theorem boB(o:Loc)(l:List ItN):baJ o l 0=List.replicate l.length .nilIface:=by simp[baJ]
theorem boA(o:Loc)(l:List ItN):baJ o l l.length=(l.map (acV o)).map Pc.av:=by simp[baJ]
theorem bhK(o:Loc)(l:List ItN)(h:i≤l.length):(baJ o l i).length=l.length:=by simp[baJ];omega
theorem bhJ(o:Loc){l:List ItN}(h:i<l.length){p:Pc}(hp:acV o l[i]=p):putRow (baJ o l i) (0+((i:Nat):Int).toNat*1) [p.av]=baJ o l (i+1):=by
 rw[show 0+((i:Nat):Int).toNat*1=i by omega];unfold baJ;rw[show l.length-i=(l.length-(i+1))+1 by omega,eI,←bN h,eA,bE];simp only[dQ,List.map_nil,eQ,dL,hp];unfold putRow;have e:((l.take i).map λx=>(acV o x).av).length=i:=by simp;omega
 rw[cZ aA,aX aA,aW,aY,List.drop_append,e,dI aA];simp
theorem baV(h:i<o.length):adM (o.take (i+1))=adM (o.take i)++(o.getD i (.fx [])).txt:=by
 unfold adM;rw[←bN h,eA,List.flatten_append,aS,aR h];simp
theorem bkL(o:List Pc)(i:Nat):(adM (o.take i)).length≤(adM o).length:=by
 have:adM o=adM (o.take i)++adM (o.drop i):=by unfold adM;rw[←List.flatten_append,←eA,cE]
 rw[this,aQ];omega
theorem abH{n:Nat}(h:n≤1000000000):n≤maxLen:=by rw[zT];omega
def akO(b n:Nat)(pcs:List Pc)(H:Heap):Nat→Env→Heap→Prop:=λk env H1=>∃i:Nat,i≤n∧env=[(3,.str (adM (pcs.take i))),(11,.mslice (some ⟨b,0,none⟩) n n),(12,.int .i64 (n:Int)),(13,.int .i64 (i:Int))]∧H=H1∧k=n-i
theorem akN(l:List ItN)(gr:Bool)(sc:Int)(o:Loc)(b n:Nat)(pcs:List Pc)(hnn:pcs.length=n)(hn:n≤100000)(ht:(adM pcs).length≤1000000000)(H:Heap)(hb:H.objs b=some (pcR pcs)):ACall prog 41 [.iptr (shC l gr sc o b n)] H (λy H'=>y= .str (adM pcs)∧H'=H):=by
 refine ACall.of_body func41 rfl ntmps41 results41 rfl ?_;iterate 15 refine AX ?_
 refine .p rfl (zA U89 rfl Z87 (tm rfl)) ?_;iterate 6 refine AX ?_
 refine AWP.loopW (akO b n pcs H) (n) ⟨0,Nat.zero_le _,rfl,rfl,rfl⟩ sX (hRa _) ?_;rintro _ _ _ ⟨i,hi,rfl,rfl,rfl⟩;iterate 6 refine AX ?_
 refine AWP.cond (tm rfl) (λhc14=>?_) (λhc14=>?_)
 ·try simp only[aK]at hc14
  iterate 3 refine AX ?_
  refine .block (.seq (.region (.p rfl (yH U87 Z147 (tm rfl) (tm rfl) aA aA) (.e rfl (amY Pc.av (.fx []) i isAgg147 (tm rfl) hb aA aA) ?_))));have hnx:=baV (o:=pcs) (i:=i) aA;have hle:=bkL pcs (i+1);rw[hnx,aQ]at hle;generalize pcs.getD i (.fx [])=p at *;have htx:=p.txt_eq;iterate 11 refine AX ?_
  refine .p rfl (bcM (tm rfl)) ?_;iterate 4 refine AX ?_
  refine AWP.cond (tm rfl) (λhc19=>?_) (λhc19=>?_)
  ·try simp only[aK]at hc19
   iterate 2 refine AX ?_
   refine .s rfl (abA V145 (zr145)) ?_;rintro _ _ ⟨b6,hb6,rfl,hH⟩;obtain rfl:=hH.symm;refine .e0 (zH sizeOf145 (tm rfl) (tm rfl) rfl rfl (.inr ⟨_,rfl⟩) (oS _ _ _) (lB rfl)) ?_;try first|rw[sS]|rw[sU aB]
   iterate 2 refine AX ?_
   refine AWP.frz (t:=6) rfl (hb6) ?_;iterate 2 refine AX ?_
   refine .p rfl (zA U145 rfl Z9 (tm rfl)) ?_;refine AX ?_;refine .p rfl (zU (tm rfl) (tm rfl) (by have h:=hle;rw[htx,aM hc19]at h;simp only[aQ,aW,aY]at *;exact abH aA)) ?_;iterate 10 refine AX ?_
   refine Round.mk (J:=akO b n pcs H) ⟨i+1,by omega,rfl,rfl,rfl⟩ (yD rfl (by rw[hnx,htx];first|(rw[aM hc19]<;>rfl)|(rw[aL (by rw[hc19];simp),aM hc30]<;>rfl)|(rw[aL (by rw[hc19];simp),aL hc30,aM hc37]<;>rfl)|(rw[aL (by rw[hc19];simp),aL hc30,aL hc37,bT]<;>rfl)) sX) (hRa _) aA
  try simp only[aK]at hc19
  iterate 2 refine AX ?_
  refine .p rfl (bcL (tm rfl)) ?_;iterate 4 refine AX ?_
  refine AWP.cond_true (tm rfl) (by rw[show p.fxB=false from hc19];rfl) ?_;iterate 2 refine AX ?_
  refine .s rfl (abA V183 (zr183)) ?_;rintro _ _ ⟨b7,hb7,rfl,hH⟩;obtain rfl:=hH.symm;refine .e0 (zH sizeOf183 (tm rfl) (tm rfl) rfl rfl (.inr ⟨_,rfl⟩) (oS _ _ _) (lB rfl)) ?_;try first|rw[sS]|rw[sU aB]
  iterate 2 refine AX ?_
  refine AWP.frz (t:=7) rfl (hb7) ?_;iterate 2 refine AX ?_
  refine .p rfl (zA U183 rfl Z9 (tm rfl)) ?_;iterate 10 refine AX ?_
  refine AWP.cond (tm rfl) (λhc30=>?_) (λhc30=>?_)
  ·try simp only[aK]at hc30
   iterate 2 refine AX ?_
   refine .p rfl (zA U183 rfl Z9 (tm rfl)) ?_;refine AX ?_;refine .p rfl (zU (zM rfl) (tm rfl) (by have h:=hle;rw[htx,aL (by rw[hc19];simp),aM hc30]at h;simp only[aQ,aW,aY]at *;exact abH aA)) ?_;refine .p rfl (zU (tm rfl) (tm rfl) (by have h:=hle;rw[htx,aL (by rw[hc19];simp),aM hc30]at h;simp only[aQ,aW,aY]at *;exact abH aA)) ?_;iterate 11 refine AX ?_
   refine Round.mk (J:=akO b n pcs H) ⟨i+1,by omega,rfl,rfl,rfl⟩ (yD rfl (by rw[hnx,htx];first|(rw[aM hc19]<;>rfl)|(rw[aL (by rw[hc19];simp),aM hc30]<;>rfl)|(rw[aL (by rw[hc19];simp),aL hc30,aM hc37]<;>rfl)|(rw[aL (by rw[hc19];simp),aL hc30,aL hc37,bT]<;>rfl)) sX) (hRa _) aA
  try simp only[aK]at hc30
  iterate 6 refine AX ?_
  refine AWP.cond (tm rfl) (λhc37=>?_) (λhc37=>?_)
  ·try simp only[aK]at hc37
   iterate 2 refine AX ?_
   refine .p rfl (zU (tm rfl) (zM rfl) (by have h:=hle;rw[htx,aL (by rw[hc19];simp),aL hc30,aM hc37]at h;simp only[aQ,aW,aY]at *;exact abH aA)) ?_;iterate 11 refine AX ?_
   refine Round.mk (J:=akO b n pcs H) ⟨i+1,by omega,rfl,rfl,rfl⟩ (yD rfl (by rw[hnx,htx];first|(rw[aM hc19]<;>rfl)|(rw[aL (by rw[hc19];simp),aM hc30]<;>rfl)|(rw[aL (by rw[hc19];simp),aL hc30,aM hc37]<;>rfl)|(rw[aL (by rw[hc19];simp),aL hc30,aL hc37,bT]<;>rfl)) sX) (hRa _) aA
  try simp only[aK]at hc37
  iterate 10 refine AX ?_
  refine Round.mk (J:=akO b n pcs H) ⟨i+1,by omega,rfl,rfl,rfl⟩ (yD rfl (by rw[hnx,htx];first|(rw[aM hc19]<;>rfl)|(rw[aL (by rw[hc19];simp),aM hc30]<;>rfl)|(rw[aL (by rw[hc19];simp),aL hc30,aM hc37]<;>rfl)|(rw[aL (by rw[hc19];simp),aL hc30,aL hc37,bT]<;>rfl)) sX) (hRa _) aA
 try simp only[aK]at hc14
 iterate 12 refine AX ?_
 refine Ret.go (.cons (.tmp _ _ rfl) .nil) _ (hRa _) ?_;have hil:i=pcs.length:=by omega
 subst hil;rw[bS];exact⟨rfl,rfl⟩
def apZ(l:List ItN)(k:Int)(s:List UInt8)(i:Nat)(o:List Pc):List Pc:=o.mapIdx λj p=>if j<i∧aaJ l j=k then .fx s else p
theorem boO(l:List ItN)(k:Int)(s:List UInt8)(o:List Pc):apZ l k s 0 o=o:=by
 unfold apZ;refine cW aF λj h1 h2=>?_;rw[bP,aI]
theorem aiA(l:List ItN)(k:Int)(s:List UInt8)(i:Nat)(o:List Pc):(apZ l k s i o).length=o.length:=List.length_mapIdx
theorem axF{l:List ItN}{k:Int}{s:List UInt8}(h:¬aaJ l i=k):apZ l k s (i+1) o=apZ l k s i o:=by
 unfold apZ;refine cW aF λj h1 h2=>?_;rw[bP,bP];by_cases q:j=i
 ·subst q;rw[aL (λz=>h z.2),aI]
 by_cases c:j<i∧aaJ l j=k
 ·rw[aM ⟨by omega,c.2⟩,aM c]
 rw[aL (λz=>c ⟨by omega,z.2⟩),aL c]
theorem axE{l:List ItN}{k:Int}{s:List UInt8}(h:aaJ l i=k):(apZ l k s i o).set i (.fx s)=apZ l k s (i+1) o:=by
 unfold apZ;refine cW aF λj h1 h2=>?_;rw[List.getElem_set,bP,bP];by_cases q:i=j
 ·subst q;rw[aM rfl,aM ⟨by omega,h⟩]
 rw[aL q];by_cases c:j<i∧aaJ l j=k
 ·rw[aM c,aM ⟨by omega,c.2⟩]
 rw[aL c,aL (λz=>c ⟨by omega,z.2⟩)]
theorem qB{l:List ItN}(h:i<l.length):aaJ l i=l[i].kind:=by unfold aaJ;rw[aiS h]
def bcC(l:List ItN)(gr:Bool)(sc:Int)(o:Loc)(b n:Nat)(pcs:List Pc)(k0:Int)(s:List UInt8)(H:Heap):Nat→Env→Heap→Prop:=λk env H1=>∃i:Nat,i≤l.length∧env=[(0,.iptr (shC l gr sc o b n)),(1,.int .i64 k0),(2,.str s),(12,itS l .shared),(13,.int .i64 (l.length:Int)),(14,.int .i64 (i:Int))]∧H1=H.set b (pcR (apZ l k0 s i pcs))∧k=l.length-i
theorem aiM(l:List ItN)(gr:Bool)(sc:Int)(o:Loc)(b n:Nat)(pcs:List Pc)(hn:pcs.length=l.length)(hnl:n=l.length)(hl:l.length≤100000)(k0:Int)(s:List UInt8)(H:Heap)(hb:H.objs b=some (pcR pcs)):ACall prog 36 [.iptr (shC l gr sc o b n),.int .i64 k0,.str s] H (λ_ H'=>H'=H.set b (pcR (apZ l k0 s l.length pcs))):=by
 refine ACall.of_body func36 rfl ntmps36 results36 rfl ?_;iterate 4 refine AX ?_
 refine .p rfl (zA U89 rfl Z52 (tm rfl)) (.p rfl (zA U52 rfl Z50 (tm rfl)) ?_);iterate 6 refine AX ?_
 refine AWP.loopW (bcC l gr sc o b n pcs k0 s H) (l.length) ⟨0,Nat.zero_le _,rfl,by rw[boO];exact(Heap.set_self hb).symm,rfl⟩ sX (hRa _) ?_;rintro _ _ _ ⟨i,hi,rfl,rfl,rfl⟩;iterate 6 refine AX ?_
 refine AWP.cond (tm rfl) (λhc15=>?_) (λhc15=>?_)
 ·try simp only[aK]at hc15
  iterate 9 refine AX ?_
  refine .al zr57 (λb7 hb7=>?_);refine AX ?_;refine .e0 (zH Z57 (tm rfl) (tm rfl) rfl rfl (.inr ⟨_,rfl⟩) (oS _ _ _) (lB rfl)) ?_;try first|rw[sS]|rw[sU aB]
  iterate 2 refine AX ?_
  refine AWP.frz (t:=7) rfl (hb7) ?_;iterate 2 refine AX ?_
  refine .p rfl (zA U57 rfl Z3 (tm rfl)) ?_;iterate 5 refine AX ?_
  refine AWP.cond (tm rfl) (λhc22=>?_) (λhc22=>?_)
  ·try simp only[aK]at hc22
   iterate 3 refine AX ?_
   refine .p rfl (zA U89 rfl Z87 (tm rfl)) ?_;refine AX ?_;refine .mv rfl rfl (.mv rfl rfl (.p rfl (yO [(0,1)] U145 V145 (zr145) rfl (pl145 _ U145) (.cons (tm rfl) (.inl rfl) .nil) rfl) (.p rfl (qP U145 rfl (tm rfl)) (.p rfl (yH U87 Z147 (tm rfl) (tm rfl) aA aA) (.e0 (yP Pc.av (.fx s) i Z147 (tm rfl) (tm rfl) rfl rfl (oS _ _ _) aA (by rw[aiA];omega)) ?_)))));rw[sS];iterate 8 refine AX ?_
   refine Round.mk (J:=bcC l gr sc o b n pcs k0 s H) ⟨i+1,by omega,rfl,by first|exact congrArg (λz=>H.set b (pcR z)) (axE ((qB aA).trans hc22))|(rw[axF (i:=i) (λq=>hc22 ((qB (i:=i) aA).symm.trans q))]),rfl⟩ sX (hRa _) aA
  try simp only[aK]at hc22
  iterate 8 refine AX ?_
  refine Round.mk (J:=bcC l gr sc o b n pcs k0 s H) ⟨i+1,by omega,rfl,by first|exact congrArg (λz=>H.set b (pcR z)) (axE ((qB aA).trans hc22))|(rw[axF (i:=i) (λq=>hc22 ((qB (i:=i) aA).symm.trans q))]),rfl⟩ sX (hRa _) aA
 try simp only[aK]at hc15
 iterate 4 refine AX ?_
 refine Ret.go' .nil _ (hRa _) ?_;have hil:i=l.length:=by omega
 subst hil;rfl
def akQ(l:List ItN)(gr:Bool)(sc:Int)(o:Loc)(b:Nat)(H:Heap):Nat→Env→Heap→Prop:=λk env H1=>∃i:Nat,i≤l.length∧env=[(3,.iptr (pL o (szA o)).cells),(5,.iptr (shC l gr sc o b l.length)),(17,itS l .shared),(18,.int .i64 (l.length:Int)),(19,.int .i64 (i:Int))]∧H1=H.set b (.box 147 (baJ o l i))∧k=l.length-i
theorem adO{dst:Option Tmp}{ty:TypeId}{pos:String}{af:Array Go.Edge}{gd:Option (Nat×Bool)}{env:Env}{H:Heap}{q:Operand}{b:Nat}(o:Loc){l:List ItN}(p:Pc)(hp:Ev env q (.ptr (some ⟨b,0+((i:Nat):Int).toNat*1,none⟩)))(hx:Ev env x p.av)(hb:H.objs b=some (.box 147 (baJ o l i)))(h:i<l.length)(hl:acV o l[i]=p):
  AStep prog ⟨dst,.store 147 q x,ty,pos,af,gd⟩ env H (λz H'=>z= .raw undef∧H'=H.set b (.box 147 (baJ o l (i+1)))):=by
 have hh:=zH (P:=prog) (dst:=dst) (ty:=ty) (pos:=pos) (af:=af) (gd:=gd) Z147 hp hx (by rw[p.one.2];simp[p.one.1]) (by rw[p.one.2];rfl) (.inl p.one.1) hb (by rw[bhK o l aA];omega);rw[p.one.2,bhJ o h hl]at hh;exact hh
theorem anE(l:List ItN)(gr:Bool)(sc:Int)(o:Loc)(hl:l.length≤100000)(H:Heap):ACall prog 32 [.agg [itS l .shared,.bool gr,.int .i64 sc],pL o (szA o)] H (λy H'=>∃b,y= .iptr (shC l gr sc o b l.length)∧H.objs b=none∧H'=H.set b (pcR (l.map (acV o)))):=by
 refine .of_body func32 rfl ntmps32 results32 rfl ?_;iterate 4 refine AX ?_
 refine .p rfl (zC alW) ?_;iterate 3 refine AX ?_
 refine .draw [(0,true),(1,true),(2,true),(3,true),(4,true),(5,false),(6,true),(7,true),(8,true)] rfl aE ?_;iterate 2 refine AX ?_
 refine .p rfl rfl (zA U52 rfl Z50 (tm rfl)) ?_;iterate 2 refine AX ?_
 refine .s rfl rfl (akI (m:=l.length) U87 typeInfo147 Z147 zeroValue147 (tm rfl) (tm rfl) aC aA) ?_;rintro _ _ ⟨b,rfl,hb,hH⟩;obtain rfl:=hH.symm;refine .p rfl rfl (qN zr89 pl89 (.cons (tm rfl) (.inr ⟨_,rfl⟩) (.cons (tm rfl) (.inr ⟨_,rfl⟩) (.cons (tm rfl) (.inl rfl) .nil))) rfl) ?_;refine .f rfl rfl (λ_=>qA (tm rfl) (.inr ⟨_,rfl⟩)) ?_;iterate 6 refine AX ?_
 refine .p rfl (zA U52 rfl Z50 (tm rfl)) ?_;iterate 6 refine AX ?_
 refine .loopW (akQ l gr sc o b H) (l.length) ⟨0,Nat.zero_le _,rfl,by rw[boB],rfl⟩ sX (hRa _) ?_;rintro _ _ _ ⟨i,hi,rfl,rfl,rfl⟩;iterate 6 refine AX ?_
 refine .cx rfl (λhc20=>?_) (λhc20=>?_)
 ·iterate 9 refine AX ?_
  refine .al zr57 (λb7 hb7=>?_);iterate 4 refine AX ?_
  refine .frz (t:=7) rfl (hb7) ?_;iterate 2 refine AX ?_
  refine .p rfl (zA U57 rfl Z3 (tm rfl)) ?_;iterate 10 refine AX ?_
  refine .cx rfl (λhc34=>?_) (λhc34=>?_)
  ·refine .draw [(0,true),(1,true),(2,true),(3,true),(4,true),(5,true),(6,true),(7,true),(8,true),(9,true),(10,false)] rfl aE ?_;iterate 2 refine AX ?_
   refine .p rfl rfl (zA U89 rfl Z87 (tm rfl)) ?_;iterate 2 refine AX ?_
   refine .p rfl rfl (zA U57 rfl Z9 (tm rfl)) ?_;refine AX ?_;refine .p rfl rfl (yO [(0,1)] U145 V145 (zr145) rfl (pl145 _ U145) (.cons (tm rfl) (.inl rfl) .nil) rfl) ?_;iterate 2 refine AX ?_
   refine .s0 rfl (adO o (.fx l[i].text) (tm rfl) (tm rfl) (oS _ _ _) (show i<l.length by omega) (by unfold acV;rw[aM (by exact hc34)])) ?_;rintro _ _ ⟨rfl,hH⟩;obtain rfl:=hH.symm;rw[sS];iterate 9 refine AX ?_
   refine Round.mk ⟨i+1,by omega,rfl,rfl,rfl⟩ sX (hRa _) aA
  iterate 6 refine AX ?_
  refine .cx rfl (λhc46=>?_) (λhc46=>?_)
  ·refine .draw [(0,true),(1,true),(2,true),(3,true),(4,true),(5,true),(6,true),(7,true),(8,true),(9,true),(10,false)] rfl aE ?_;iterate 2 refine AX ?_
   refine .p rfl rfl (zA U89 rfl Z87 (tm rfl)) ?_;iterate 2 refine AX ?_
   refine .p rfl rfl (zA U32 rfl Z9 (tm rfl)) ?_;refine AX ?_;refine .p rfl rfl (yO [(0,1)] U145 V145 (zr145) rfl (pl145 _ U145) (.cons (tm rfl) (.inl rfl) .nil) rfl) ?_;iterate 2 refine AX ?_
   refine .s0 rfl (adO o (.fx o.cur) (tm rfl) (tm rfl) (oS _ _ _) (show i<l.length by omega) (by unfold acV;rw[aL (by exact hc34),aM (by exact hc46)])) ?_;rintro _ _ ⟨rfl,hH⟩;obtain rfl:=hH.symm;rw[sS];iterate 9 refine AX ?_
   refine Round.mk ⟨i+1,by omega,rfl,rfl,rfl⟩ sX (hRa _) aA
  iterate 6 refine AX ?_
  refine .cx rfl (λhc58=>?_) (λhc58=>?_)
  ·refine .draw [(0,true),(1,true),(2,true),(3,true),(4,true),(5,true),(6,true),(7,true),(8,true),(9,true),(10,false)] rfl aE ?_;iterate 2 refine AX ?_
   refine .p rfl rfl (zA U89 rfl Z87 (tm rfl)) ?_;iterate 2 refine AX ?_
   refine .p rfl rfl (zA U32 rfl Z9 (tm rfl)) ?_;refine AX ?_;refine .p rfl rfl (yO [(0,1)] U145 V145 (zr145) rfl (pl145 _ U145) (.cons (tm rfl) (.inl rfl) .nil) rfl) ?_;iterate 2 refine AX ?_
   refine .s0 rfl (adO o (.fx o.pct) (tm rfl) (tm rfl) (oS _ _ _) (show i<l.length by omega) (by unfold acV;rw[aL (by exact hc34),aL (by exact hc46),aM (by exact hc58)])) ?_;rintro _ _ ⟨rfl,hH⟩;obtain rfl:=hH.symm;rw[sS];iterate 9 refine AX ?_
   refine Round.mk ⟨i+1,by omega,rfl,rfl,rfl⟩ sX (hRa _) aA
  iterate 6 refine AX ?_
  refine .cx rfl (λhc70=>?_) (λhc70=>?_)
  ·refine .draw [(0,true),(1,true),(2,true),(3,true),(4,true),(5,true),(6,true),(7,true),(8,true),(9,true),(10,false)] rfl aE ?_;iterate 2 refine AX ?_
   refine .p rfl rfl (zA U89 rfl Z87 (tm rfl)) ?_;iterate 2 refine AX ?_
   refine .p rfl rfl (zA U32 rfl Z9 (tm rfl)) ?_;refine AX ?_;refine .p rfl rfl (yO [(0,1)] U145 V145 (zr145) rfl (pl145 _ U145) (.cons (tm rfl) (.inl rfl) .nil) rfl) ?_;iterate 2 refine AX ?_
   refine .s0 rfl (adO o (.fx o.dc) (tm rfl) (tm rfl) (oS _ _ _) (show i<l.length by omega) (by unfold acV;rw[aL (by exact hc34),aL (by exact hc46),aL (by exact hc58),aM (by exact hc70)])) ?_;rintro _ _ ⟨rfl,hH⟩;obtain rfl:=hH.symm;rw[sS];iterate 9 refine AX ?_
   refine Round.mk ⟨i+1,by omega,rfl,rfl,rfl⟩ sX (hRa _) aA
  iterate 6 refine AX ?_
  refine .cx rfl (λhc82=>?_) (λhc82=>?_)
  ·iterate 3 refine AX ?_
   refine .p rfl (zA U89 rfl Z87 (tm rfl)) ?_;iterate 2 refine AX ?_
   refine .p rfl (yO [(0,1)] U145 V145 (zr145) rfl (pl145 _ U145) (.cons (zM rfl) (.inl rfl) .nil) rfl) ?_;iterate 2 refine AX ?_
   refine .e0 (adO o (.fx [47]) (tm rfl) (tm rfl) (oS _ _ _) (show i<l.length by omega) (by unfold acV;rw[aL (by exact hc34),aL (by exact hc46),aL (by exact hc58),aL (by exact hc70),aM (by exact hc82)])) ?_;rw[sS];iterate 9 refine AX ?_
   refine Round.mk ⟨i+1,by omega,rfl,rfl,rfl⟩ sX (hRa _) aA
  iterate 3 refine AX ?_
  refine .p rfl (zA U89 rfl Z87 (tm rfl)) ?_;iterate 2 refine AX ?_
  refine .p rfl (yO [(0,1)] U145 V145 (zr145) rfl (pl145 _ U145) .nil rfl) ?_;iterate 2 refine AX ?_
  refine .e0 (adO o (.fx []) (tm rfl) (tm rfl) (oS _ _ _) (show i<l.length by omega) (by unfold acV;rw[aL (by exact hc34),aL (by exact hc46),aL (by exact hc58),aL (by exact hc70),aL (by exact hc82)])) ?_;rw[sS];iterate 9 refine AX ?_
  refine Round.mk ⟨i+1,by omega,rfl,rfl,rfl⟩ sX (hRa _) aA
 iterate 13 refine AX ?_
 have hil:i=l.length:=by omega
 subst hil;exact⟨b,rfl,hb,by rw[boA];rfl⟩
end
section
open Go Go.RowKit
set_option maxRecDepth 100000
theorem amX(h:∀p,p∈o→p.txt.length≤m):(adM o).length≤o.length*m:=by
 unfold adM;induction o with
 |nil=>simp
 |cons p o ih=>
  have h1:=h p aF;have h2:=ih (λq hq=>h q (by simp[hq]));simp only[dQ,List.flatten_cons,aQ,aW,bM];omega
theorem bgK(s:List UInt8):ajM s≤4:=by
 obtain⟨h1,h2,h3,_⟩:=avX s;by_cases q:(dgo s).2=0∨(dgo s).1=65533∧(dgo s).2=1
 ·rw[h1 q];omega
 rw[h2 q];exact h3
theorem blG{x:ItN}(h:aeA x=true):x.text.length≤4:=by
 unfold aeA at h;split at h
 ·have h:=of_decide_eq_true h;have:=bgK x.text;omega
 split at h
 ·rcases of_decide_eq_true h with e|e|e<;>rw[e]<;>simp
 split at h
 ·rcases of_decide_eq_true h with e|e<;>rw[e]<;>simp
 rw[(of_decide_eq_true h).2.2];simp
theorem bdS{o:Loc}(ho:o.ok){x:ItN}(hx:aeA x=true):(acV o x).txt.length≤10:=by
 have h:=blG hx;obtain⟨h1,h2,h3,h4,h5⟩:=ho;unfold acV
 repeat' split
 all_goals (simp only[Pc.txt];first|omega|simp)
theorem ahD{p:List SecN}(h:qL p=true){s:SecN}(hs:s∈p):s.items.length≤100∧s.items.all aeA=true∧zX s≠0:=by
 unfold qL at h;rw[bB,aV,Bool.not_eq_true']at h;obtain⟨⟨_,_,h1⟩,h2⟩:=h;obtain⟨i,hi,rfl⟩:=cH hs;have hg:=biX hi;unfold acL at h2;rw[List.any_eq_false]at h2;have hb:=h2 i (eK.2 hi);rw[adQ hi]at hb;have hn:zX p[i]≠0:=λe=>hb (by unfold asR;rw[e];rfl);refine⟨by omega,?_,hn⟩;cases q:p[i].items.all aeA with
 |true=>rfl
 |false=>exact absurd (by unfold zX;rw[aM q]) hn
theorem aiX{l:List ItN}{k:Int}{s:List UInt8}{n:Nat}(hs:s.length≤m)(h:∀p,p∈o→p.txt.length≤m):∀p,p∈apZ l k s n o→p.txt.length≤m:=by
 intro p hp;unfold apZ at hp;obtain⟨i,hi,rfl⟩:=cH hp;rw[bP];split
 ·exact hs
 exact h _ (bF _)
theorem anS{o:Loc}(ho:o.ok){l:List ItN}(h:l.all aeA=true)(hm:10≤m):∀p,p∈l.map (acV o)→p.txt.length≤m:=by
 intro p hp;obtain⟨x,hx,rfl⟩:=dF.1 hp;exact bK (bdS ho (cV.1 h x hx)) hm
def afK(p:List SecN):SecN:=agB p (p.length-1)
def bbI(o:Loc)(s:SecN)(x:List UInt8):List UInt8:=adM (apZ s.items 8 x s.items.length (s.items.map (acV o)))
theorem avQ{o:Loc}(ho:o.ok){s:SecN}(h1:s.items.length≤100)(h2:s.items.all aeA=true){x:List UInt8}(hx:x.length≤1000):(bbI o s x).length≤1000000000:=by
 have h:=amX (aiX (l:=s.items) (k:=8) (n:=s.items.length) hx (anS ho h2 aA));rw[aiA,bR]at h;unfold bbI;exact bK h (bK (bC 1000 h1) aC)
def agA(o:Loc)(p:List SecN)(x:List UInt8):List UInt8×Int:=
 if qL p=false then([],12)else if p.length<4∧(1<p.length∨zX (afK p)≠6)then(x,0)else(bbI o (afK p) x,0)
theorem awO{p:List SecN}(h:0<p.length):afK p∈p:=by
 unfold afK;rw[adQ (show p.length-1<p.length by omega)];exact bF _
theorem adR{p:List SecN}(h:qL p=true):1≤p.length∧p.length≤4:=by
 unfold qL at h;rw[bB,aV]at h;omega
theorem akW(p:List SecN)(tp:Tail)(hs:∀s,s∈p→s.items.length≤1000)(x:List UInt8)(hx:x.length≤1000)(o:Loc)(ho:o.ok)(H:Heap):ACall prog 14 [.agg [aeK p tp],.str x,pL o (szA o)] H (λy H'=>y= .tuple [.str (agA o p x).1,.int .i64 (agA o p x).2]∧H'=H):=by
 refine ACall.of_body func14 rfl ntmps14 results14 rfl ?_;iterate 12 refine AX ?_
 refine .cl rfl call30 (evs1 rfl) (ajF _ _ hs _) ?_;iterate 3 refine AX ?_
 refine AWP.cx rfl (λhc13=>?_) (λhc13=>?_)
 ·iterate 9 refine AX ?_
  refine⟨?_,rfl⟩;unfold agA;rw[aM hc13];rfl
 have hr:qL p=true:=by simpa using hc13
 obtain⟨hp1,hp4⟩:=adR hr;obtain⟨hl1,hl2,hl3⟩:=ahD hr (awO aA);have hla:p[(((p.length:Nat):Int)-1).toNat]'aA=afK p:=by
  unfold afK;rw[adQ (show p.length-1<p.length by omega)];congr 1;omega
 iterate 4 refine AX ?_
 refine .p rfl (zA U24 rfl Z22 (tm rfl)) ?_;refine AX ?_;refine .p rfl (zA U24 rfl Z22 (tm rfl)) ?_;iterate 5 refine AX ?_
 refine .s rfl (abA V52 (zr52)) ?_;rintro _ _ ⟨b8,hb8,rfl,hH⟩;obtain rfl:=hH.symm;iterate 3 refine AX ?_
 refine AWP.frz (t:=8) rfl (hb8) ?_;iterate 2 refine AX ?_
 rw[hla];have hle:=λh1 h2=>avQ ho (s:=afK p) (x:=x) h1 h2 hx;generalize hls:afK p=z at *;obtain⟨l,gr,sc⟩:=z;have hle:=hle hl1 hl2;have hl1:l.length≤100:=hl1;generalize hkk:zX (SecN.mk l gr sc)=kk at *;refine AX ?_;refine .p rfl (zA U24 rfl Z22 (tm rfl)) ?_;iterate 5 refine AX ?_
 refine AWP.seqTo 35 (.bool (decide (p.length<4∧(1<p.length∨kk≠6)))) [1,5,6,7,8] ?_ ?_
 ·iterate 4 refine AX ?_
  refine zB (t:=27) rfl (λhg27=>?_) (λhg27=>?_)
  ·have hh27:=hg27;try simp only[aK]at hh27
   iterate 3 refine AX ?_
   refine zB (t:=30) rfl (λhg30=>?_) (λhg30=>?_)
   ·have hh30:=hg30;try simp only[aK]at hh30
    iterate 6 refine AX ?_
    exact⟨rfl,zP rfl (by(refine Eq.symm ?_;first|((with_reducible refine aN.2 ?_);(first|omega|simp[*]))|((with_reducible refine aP ?_);(first|omega|simp[*]))|((with_reducible refine aO ?_);(first|omega|simp[*])))) sX,rfl⟩
   have hh30:=hg30;try simp only[aK]at hh30
   refine AX ?_;refine .gs rfl rfl rfl aB (zE call35 (evs1 rfl) (agV l gr sc _ aA _)) ?_;rintro _ _ ⟨rfl,hH⟩;obtain rfl:=hH.symm;rw[hkk];iterate 4 refine AX ?_
   exact⟨rfl,zP rfl (by(refine Eq.symm ?_;first|((with_reducible refine aN.2 ?_);(first|omega|simp[*]))|((with_reducible refine aP ?_);(first|omega|simp[*]))|((with_reducible refine aO ?_);(first|omega|simp[*])))) sX,rfl⟩
  have hh27:=hg27;try simp only[aK]at hh27
  iterate 9 refine AX ?_
  exact⟨rfl,zP rfl (by(refine Eq.symm ?_;first|((with_reducible refine aN.2 ?_);(first|omega|simp[*]))|((with_reducible refine aP ?_);(first|omega|simp[*]))|((with_reducible refine aO ?_);(first|omega|simp[*])))) sX,rfl⟩
 refine AWP.sub [(35,_),(1,_),(5,_),(6,_),(7,_),(8,_)] sX ?_;refine AWP.cx rfl (λhc35=>?_) (λhc35=>?_)
 ·iterate 10 refine AX ?_
  refine⟨?_,rfl⟩;unfold agA;rw[aL (by rw[hr];simp),hls,hkk,aM hc35];rfl
 iterate 6 refine AX ?_
 refine .s rfl (zE call32 (evs2 rfl rfl) (anE l gr sc o aA _)) ?_;rintro _ _ ⟨b,rfl,hb,rfl⟩;iterate 7 refine AX ?_
 refine .s rfl (zE call36 (.cons (tm rfl) (.cons zG (evs1 rfl))) (aiM l gr sc o b l.length (l.map (acV o)) (by rw[bR]) rfl aA 8 x _ (oS _ _ _))) ?_;rintro _ _ rfl;rw[sS];iterate 5 refine AX ?_
 refine .cl rfl call41 (evs1 rfl) (akN l gr sc o b l.length _ (by rw[aiA,bR]) aA hle _ (oS _ _ _)) ?_;iterate 5 refine AX ?_
 refine Ret.go (.cons (.tmp _ _ rfl) (.cons (.tmp _ _ rfl) .nil)) H (Heap.le_set hb _) ?_;refine⟨?_,rfl⟩;unfold agA;rw[aL (by rw[hr];simp),hls,hkk,aL hc35];rfl
end
end Go.Proofs.YteedncdcbgplfaaGreatDoor
