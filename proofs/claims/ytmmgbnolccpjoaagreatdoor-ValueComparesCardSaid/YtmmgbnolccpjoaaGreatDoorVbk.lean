import Derived.Test.YtmmgbnolccpjoaaGreatDoorV4
set_option maxHeartbeats 1000000
namespace Go.Proofs.YtmmgbnolccpjoaaGreatDoor
open Go.Proofs.Tryz
open Go Go.RowKit
set_option maxRecDepth 100000
theorem zr74:ZR 74 [.str [],.str [],.str [],.str [],.str [],.str [],.str [],.bool false,.bool false,.slice 1 [] .full,.ptr none]:=ZRi zeroValue74
theorem pl74:PL 74 [(0,10),(10,1)]:=PLi U74
def opA(l:Loc)(b:Nat):AV:=.iptr ((pL l (szA l)).cells++[erA l b])
theorem aoW(l:Loc)(H:Heap):ACall prog 11 [pL l (szA l)] H (λy H'=>∃b,H.objs b=none∧y=opA l b∧H'=H.set b (.box 189 (aaR auY))):=by
 refine .of_body func11 rfl ntmps11 results11 rfl ?_;iterate 3 refine AX ?_
 refine .p rfl (zT aoH) ?_;iterate 3 refine AX ?_
 refine .draw [(0,true),(1,true),(2,false),(3,true),(4,true),(5,true)] rfl aE ?_;iterate 2 refine AX ?_
 refine .s rfl rfl (zB call37 (evs1 rfl) (bsN l _)) ?_;rintro _ _ ⟨b,hb0,rfl,rfl⟩;refine .p rfl rfl (zX zr74 pl74 (.cons (tm rfl) (.inr ⟨_,rfl⟩) (.cons (tm rfl) (.inl rfl) .nil)) rfl) ?_;refine .f rfl rfl (λ_=>aeC (tm rfl) (.inr ⟨_,rfl⟩)) ?_;iterate 5 refine AX ?_
 exact⟨b,hb0,rfl,rfl⟩
theorem abH(l:Loc)(hk:l.ok)(hg:l.grp≠[])(v:Val)(hv:v.bits<18446744073709551616)(ht:v.text.length≤1000)(f:Nat→List AV)(hf:ROK f)(b:Nat)(H:Heap)(hb:H.objs b=some (.box 189 (aaR f))):ACall prog 12 [opA l b,v.av] H (λy H'=>y= .tuple [.int .u64 (((aaZ l v).1:Nat):Int),.int .i64 (aaZ l v).2]∧∃f',ROK f'∧H'=H.set b (.box 189 (aaR f'))):=by
 refine ACall.of_body func12 rfl ntmps12 results12 rfl ?_;iterate 2 refine AX ?_
 refine .e rfl (aeC (tm rfl) (.inr ⟨_,rfl⟩)) ?_;iterate 7 refine AX ?_
 refine .p rfl (zA U24 rfl Z3 (tm rfl)) ?_;iterate 10 refine AX ?_
 refine AWP.cond (tm rfl) (λhc10=>?_) (λhc10=>?_)
 ·try simp only[aO]at hc10
  iterate 2 refine AX ?_
  refine .p rfl (zA U24 rfl Z22 (tm rfl)) ?_;iterate 8 refine AX ?_
  refine Ret.go (.cons (.tmp _ _ rfl) (.cons (.tmp _ _ rfl) .nil)) _ (hRa _) ?_;refine⟨?_,f,hf,(Heap.set_self hb).symm⟩;unfold aaZ;rw[aJ];rfl
 try simp only[aM]at hc10
 iterate 6 refine AX ?_
 refine AWP.cond (tm rfl) (λhc14=>?_) (λhc14=>?_)
 ·try simp only[aO]at hc14
  iterate 2 refine AX ?_
  refine .p rfl (zA U24 rfl Z4 (tm rfl)) ?_;iterate 3 refine AX ?_
  refine AWP.cond (tm rfl) (λhc17=>?_) (λhc17=>?_)
  ·try simp only[aK]at hc17
   iterate 9 refine AX ?_
   refine Ret.go (.cons (.tmp _ _ rfl) (.cons (.tmp _ _ rfl) .nil)) _ (hRa _) ?_;refine⟨?_,f,hf,(Heap.set_self hb).symm⟩;unfold aaZ;rw[aI,aN ⟨by omega,hc17⟩];rfl
  try simp only[aK]at hc17
  iterate 4 refine AX ?_
  refine AWP.draw [(0,true),(1,true),(2,true),(3,true)] rfl aE ?_;refine .p rfl rfl (zA U24 rfl Z3 (tm rfl)) ?_;iterate 2 refine AX ?_
  refine .p rfl rfl (zT (tm rfl)) (.nil ?_);refine Next.go ?_;refine .ret ?_;refine Ret.go (.cons (.tmp _ _ rfl) (.cons (.tmp _ _ rfl) .nil)) _ (hRa _) ?_;refine⟨?_,f,hf,(Heap.set_self hb).symm⟩;unfold aaZ;rw[aI,aL (λq=>by rw[hc17]at q;exact absurd q.2 aC),aI];rfl
 try simp only[aM]at hc14
 iterate 6 refine AX ?_
 refine AWP.cond (tm rfl) (λhc18=>?_) (λhc18=>?_)
 ·try simp only[aO]at hc18
  refine AX ?_;refine AWP.drawT (.op 0 true (.op 1 true (.op 2 true (.op 3 true (.op 4 true (.op 5 true (.two 6 (.op 7 true (.op 8 true (.op 9 true (.op 10 false (.op 11 false (.op 12 true .done)))))) 10 (.op 6 false (.op 7 true (.op 8 true (.op 9 true (.op 11 false (.op 12 true .done))))))))))))) rfl aE ?_;refine ATree.p rfl rfl (zP (tm rfl)) ?_;refine ATree.p rfl rfl (abY (tm rfl)) ?_;refine ATree.p rfl rfl (zA U74 rfl sizeOf71 (tm rfl)) ?_;refine ATree.p rfl rfl (qH isAgg71 (tm rfl)) ?_;refine ATree.p rfl rfl (zA U24 rfl Z9 (tm rfl)) ?_;refine ATree.p rfl rfl (qH G9 (tm rfl)) ?_;refine⟨?_,?_⟩
  ·refine XTree.s rfl rfl (zB call38 (evs2 rfl rfl) (avW l hk hg f hf v.text ht b _ (hb))) ?_;rintro _ _ ⟨rfl,f1,hf1,rfl⟩
   skip
   refine ATree.p rfl rfl (zP (tm rfl)) ?_;refine ATree.p rfl rfl (yL (tm rfl) rfl) ?_;refine ATree.p rfl rfl (yL (tm rfl) rfl) ?_;refine ATree.s rfl rfl (ahU zr76) ?_;rintro _ _ ⟨b6,hb6,rfl,hH⟩;obtain rfl:=hH.symm;refine ATree.s0 rfl (zN Z76 (tm rfl) (tm rfl) rfl rfl (.inr ⟨_,rfl⟩) (oS _ _ _) (lB rfl)) ?_;rintro _ _ ⟨rfl,hH⟩;obtain rfl:=hH.symm;try first|rw[sS]|rw[sU aB]
   refine ATree.p rfl rfl (zT (tm rfl)) ?_;refine ATree.nil ?_;refine AX ?_;refine AWP.frz (t:=6) rfl (hb6) ?_;iterate 7 refine AX ?_
   refine AWP.cond (tm rfl) (λhc31=>?_) (λhc31=>?_)
   ·try simp only[aO,ne_eq]at hc31
    iterate 10 refine AX ?_
    refine Ret.go (.cons (.tmp _ _ rfl) (.cons (.tmp _ _ rfl) .nil)) _ (hRa _) ?_;refine⟨?_,f1,hf1,rfl⟩;unfold aaZ;rw[aI,aI,aJ,aJ];rfl
   try simp only[aM,ne_eq,dY]at hc31
   iterate 4 refine AX ?_
   refine .p rfl (zA U76 rfl Z22 (tm rfl)) ?_;iterate 8 refine AX ?_
   refine Ret.go (.cons (.tmp _ _ rfl) (.cons (.tmp _ _ rfl) .nil)) _ (hRa _) ?_;refine⟨?_,f1,hf1,rfl⟩;unfold aaZ;rw[aI,aI,aJ,aI];rfl
  refine XTree.s rfl rfl (ahU zr76) ?_;rintro _ _ ⟨b6,hb6,rfl,hH⟩;obtain rfl:=hH.symm;refine ATree.s rfl rfl (zB call38 (evs2 rfl rfl) (avW l hk hg f hf v.text ht b _ (by exact(oN _ _ (show b≠b6 by rintro rfl;rw[hb6]at hb;cases hb)).trans hb))) ?_;rintro _ _ ⟨rfl,f1,hf1,rfl⟩;have hn6:b6≠b:=(by rintro rfl;rw[hb6]at hb;cases hb);rw[Heap.set_comm hn6];replace hb6:(H.set b (.box 189 (aaR f1))).objs b6=none:=(oN _ _ hn6).trans hb6;refine ATree.p rfl rfl (zP (tm rfl)) ?_;refine ATree.p rfl rfl (yL (tm rfl) rfl) ?_;refine ATree.p rfl rfl (yL (tm rfl) rfl) ?_;refine ATree.s0 rfl (zN Z76 (tm rfl) (tm rfl) rfl rfl (.inr ⟨_,rfl⟩) (oS _ _ _) (lB rfl)) ?_;rintro _ _ ⟨rfl,hH⟩;obtain rfl:=hH.symm;try first|rw[sS]|rw[sU aB]
  refine ATree.p rfl rfl (zT (tm rfl)) ?_;refine ATree.nil ?_;refine AX ?_;refine AWP.frz (t:=6) rfl (hb6) ?_;iterate 7 refine AX ?_
  refine AWP.cond (tm rfl) (λhc31=>?_) (λhc31=>?_)
  ·try simp only[aO,ne_eq]at hc31
   iterate 3 refine AX ?_
   refine .p rfl (zT zH) (.nil ?_);refine Next.go ?_;refine .ret ?_;refine Next.rt ?_;refine Block.rt ?_;refine Next.rt ?_;refine Ret.go (.cons (.tmp _ _ rfl) (.cons (.tmp _ _ rfl) .nil)) _ (hRa _) ?_;refine⟨?_,f1,hf1,rfl⟩;unfold aaZ;rw[aI,aI,aJ,aJ];rfl
  try simp only[aM,ne_eq,dY]at hc31
  refine .skip ?_;refine Next.go ?_;refine .seq (.region (.p rfl (zA U76 rfl Z22 (tm rfl)) ?_));iterate 8 refine AX ?_
  refine Ret.go (.cons (.tmp _ _ rfl) (.cons (.tmp _ _ rfl) .nil)) _ (hRa _) ?_;refine⟨?_,f1,hf1,rfl⟩;unfold aaZ;rw[aI,aI,aJ,aI];rfl
 try simp only[aM]at hc18
 iterate 4 refine AX ?_
 refine AWP.draw [(0,true),(1,true),(2,true),(3,true)] rfl aE ?_;refine .p rfl rfl (zA U24 rfl Z3 (tm rfl)) ?_;iterate 6 refine AX ?_
 refine Ret.go (.cons (.tmp _ _ rfl) (.cons (.tmp _ _ rfl) .nil)) _ (hRa _) ?_;refine⟨?_,f,hf,(Heap.set_self hb).symm⟩;unfold aaZ;rw[aI,aL (λq=>by omega),aI];rfl
theorem akS(p:AV)(v:Val)(hv:v.bits<18446744073709551616)(ht:v.text.length≤1000):Fn 14 [p,v.av] (.tuple [.bool (agK v).1,.int .i64 (agK v).2]):=by
 intro H;refine .of_body func14 rfl ntmps14 results14 rfl ?_;iterate 10 refine AX ?_
 refine .p rfl (zA U24 rfl Z3 (tm rfl)) ?_;iterate 10 refine AX ?_
 refine .cx rfl (λhc8=>?_) (λhc8=>?_)
 ·iterate 2 refine AX ?_
  refine .p rfl (zA U24 rfl Z22 (tm rfl)) ?_;refine AX ?_;refine .cl rfl C40 (evs1 rfl) (ajJ _ aB _) ?_;iterate 9 refine AX ?_
  refine⟨?_,rfl⟩;unfold agK;rw[aJ];rfl
 iterate 6 refine AX ?_
 refine .cx rfl (λhc14=>?_) (λhc14=>?_)
 ·iterate 3 refine AX ?_
  refine .p rfl (zA U24 rfl Z9 (tm rfl)) ?_;refine AX ?_;refine .cl rfl call41 (evs1 rfl) (alZ _ aA _) ?_;iterate 9 refine AX ?_
  refine .cx rfl (λhc19=>?_) (λhc19=>?_)
  ·iterate 12 refine AX ?_
   refine⟨?_,rfl⟩;unfold agK;rw[aI,aJ,aN aB];rfl
  iterate 6 refine AX ?_
  refine .cx rfl (λhc21=>?_) (λhc21=>?_)
  ·iterate 12 refine AX ?_
   refine⟨?_,rfl⟩;unfold agK;rw[aI,aJ,aL aB,aN aB];rfl
  iterate 13 refine AX ?_
  refine⟨?_,rfl⟩;unfold agK;rw[aI,aJ,aL aB,aL aB];rfl
 iterate 4 refine AX ?_
 refine .draw [(0,true),(1,true),(2,true),(3,true),(4,true),(5,true)] rfl aE ?_;refine .p rfl rfl (zA U24 rfl Z4 (tm rfl)) ?_;refine AX ?_;refine .p rfl rfl (zA U24 rfl Z3 (tm rfl)) ?_;iterate 7 refine AX ?_
 refine⟨?_,rfl⟩;unfold agK;rw[aI,aI];rfl
theorem arF(l:Loc)(hk:l.ok)(b:Nat)(v:Val)(hv:v.bits<18446744073709551616)(ht:v.text.length≤1000):Fn 16 [opA l b,v.av] (.tuple [.str (adN l v).1,.int .i64 (adN l v).2]):=by
 intro H;refine .of_body func16 rfl ntmps16 results16 rfl ?_;iterate 10 refine AX ?_
 refine .p rfl (zA U24 rfl Z3 (tm rfl)) ?_;iterate 10 refine AX ?_
 refine .cx rfl (λhc8=>?_) (λhc8=>?_)
 ·refine AX ?_;refine .draw [(0,true),(1,true),(2,true),(3,true),(4,true),(5,true),(6,false),(7,true),(8,true)] rfl aE ?_;refine .p rfl rfl (zA U24 rfl Z22 (tm rfl)) ?_;iterate 3 refine AX ?_
  refine .p rfl rfl (zA U74 rfl Z29 (tm rfl)) ?_;refine AX ?_;refine .s rfl rfl (zB call43 (evs2 rfl rfl) (bcF l hk _ v.bits hv _)) ?_;rintro _ _ ⟨rfl,hH⟩;obtain rfl:=hH.symm;iterate 8 refine AX ?_
  refine⟨?_,rfl⟩;unfold adN;rw[aJ];rfl
 iterate 6 refine AX ?_
 refine .cx rfl (λhc17=>?_) (λhc17=>?_)
 ·iterate 2 refine AX ?_
  refine .p rfl (zA U24 rfl Z4 (tm rfl)) ?_;refine AX ?_;refine .cl rfl call44 (evs1 rfl) (aoR _ _) ?_;iterate 8 refine AX ?_
  refine⟨?_,rfl⟩;unfold adN;rw[aI,aJ];rfl
 iterate 4 refine AX ?_
 refine .draw [(0,true),(1,true),(2,true),(3,true),(4,true),(5,true)] rfl aE ?_;refine .p rfl rfl (zA U24 rfl Z9 (tm rfl)) ?_;refine AX ?_;refine .p rfl rfl (zA U24 rfl Z3 (tm rfl)) ?_;iterate 7 refine AX ?_
 refine⟨?_,rfl⟩;unfold adN;rw[aI,aI];rfl
theorem brG(x y:Nat)(hx:x<18446744073709551616)(hy:y<18446744073709551616)(H:Heap):ACall prog 64 [.int .u64 (x:Int),.int .u64 (y:Int)] H (λz H'=>z=(ajW (ajI x y)).av∧H'=H):=by
 have ha:=bkC hx hy;refine .of_body func64 rfl ntmps64 results64 rfl ?_;iterate 2 refine AX ?_
 refine .al zr24 (λb4 hb4=>?_);iterate 6 refine AX ?_
 refine .cl rfl call131 (evs2 rfl rfl) (ayU _ _ aB aB _) (.cl rfl C35 (evs1 rfl) (qO _ aB _) ?_);iterate 3 refine AX ?_
 refine .frz (t:=4) rfl (hb4) ?_;iterate 2 refine AX ?_
 exact⟨rfl,rfl⟩
theorem bsI(a b:Nat)(ha:a<18446744073709551616)(hb:b<18446744073709551616):Fn 132 [.int .u64 (a:Int),.int .u64 (b:Int)] (.int .u64 ((ajI a (ajS b):Nat):Int)):=by
 intro H;have hn:=amQ hb;refine .of_body func132 rfl ntmps132 results132 rfl ?_;iterate 9 refine AM ?_
 refine .cl rfl call56 (evs1 rfl) (ayS _ aB _) (.cl rfl call131 (evs2 rfl rfl) (ayU _ _ aB aB _) ?_);iterate 5 refine AX ?_
 exact⟨rfl,rfl⟩
theorem brD(x y:Nat)(hx:x<18446744073709551616)(hy:y<18446744073709551616)(H:Heap):ACall prog 65 [.int .u64 (x:Int),.int .u64 (y:Int)] H (λz H'=>z=(ajW (ajI x (ajS y))).av∧H'=H):=by
 have hn:=amQ hy;have ha:=bkC hx hn;refine .of_body func65 rfl ntmps65 results65 rfl ?_;iterate 2 refine AX ?_
 refine .al zr24 (λb4 hb4=>?_);iterate 6 refine AX ?_
 refine .cl rfl call132 (evs2 rfl rfl) (bsI x y hx hy _) (.cl rfl C35 (evs1 rfl) (qO _ aB _) ?_);iterate 3 refine AX ?_
 refine .frz (t:=4) rfl (hb4) ?_;iterate 2 refine AX ?_
 exact⟨rfl,rfl⟩
theorem brE(x y:Nat)(hx:x<18446744073709551616)(hy:y<18446744073709551616)(H:Heap):ACall prog 66 [.int .u64 (x:Int),.int .u64 (y:Int)] H (λz H'=>z=(ajW (afD x y)).av∧H'=H):=by
 have ha:=alH x y;refine .of_body func66 rfl ntmps66 results66 rfl ?_;iterate 2 refine AX ?_
 refine .al zr24 (λb4 hb4=>?_);iterate 6 refine AX ?_
 refine .cl rfl C133 (evs2 rfl rfl) (aiP _ _ aB aB _) (.cl rfl C35 (evs1 rfl) (qO _ aB _) ?_);iterate 3 refine AX ?_
 refine .frz (t:=4) rfl (hb4) ?_;iterate 2 refine AX ?_
 exact⟨rfl,rfl⟩
theorem brF(x y:Nat)(hx:x<18446744073709551616)(hy:y<18446744073709551616)(H:Heap):ACall prog 67 [.int .u64 (x:Int),.int .u64 (y:Int)] H (λz H'=>z=(ckR x y).av∧H'=H):=by
 have ha:=bbN x y;refine .of_body func67 rfl ntmps67 results67 rfl ?_;iterate 2 refine AX ?_
 refine .al zr24 (λb4 hb4=>?_);iterate 6 refine AX ?_
 refine .cl rfl C40 (evs1 rfl) (ajJ _ aB _) ?_;iterate 3 refine AX ?_
 refine .cx rfl (λhc7=>?_) (λhc7=>?_)
 ·iterate 2 refine AX ?_
  refine .cl rfl C53 (.cons zH .nil) (aaH _ _) ?_;iterate 3 refine AX ?_
  refine .frz (t:=4) rfl (hb4) ?_;iterate 3 refine AX ?_
  refine⟨?_,rfl⟩;unfold ckR;rw[aJ];rfl
 iterate 6 refine AX ?_
 refine .cl rfl C54 (evs2 rfl rfl) (aiQ x y hx hy _) (.cl rfl C35 (evs1 rfl) (qO _ aB _) ?_);iterate 3 refine AX ?_
 refine .frz (t:=4) rfl (hb4) ?_;iterate 2 refine AX ?_
 refine⟨?_,rfl⟩;unfold ckR;rw[aI];rfl
theorem bfB(x y:Nat)(hx:x<18446744073709551616)(hy:y<18446744073709551616)(H:Heap):ACall prog 68 [.int .u64 (x:Int),.int .u64 (y:Int)] H (λz H'=>z=(bqY x y).av∧H'=H):=by
 have hpl:=ckD x (toN y).1;have hsl:=bnY hx;have hhl:zV false 2 0 false<18446744073709551616:=afA _ _ _ _;refine .of_body func68 rfl ntmps68 results68 rfl ?_;iterate 2 refine AX ?_
 refine .al zr24 (λb4 hb4=>?_);iterate 5 refine AX ?_
 refine .cl rfl C40 (evs1 rfl) (ajJ _ aB _) ?_;iterate 7 refine AX ?_
 refine .cl rfl C40 (evs1 rfl) (ajJ _ aB _) ?_;iterate 3 refine AX ?_
 refine .cx rfl (λhc12=>?_) (λhc12=>?_)
 ·iterate 8 refine AX ?_
  refine .cx rfl (λhc13=>?_) (λhc13=>?_)
  ·iterate 2 refine AX ?_
   refine .cl rfl C53 (.cons zH .nil) (aaH _ _) ?_;iterate 3 refine AX ?_
   refine .frz (t:=4) rfl (hb4) ?_;iterate 4 refine AX ?_
   refine⟨?_,rfl⟩;unfold bqY;rw[aN ⟨by omega,by omega⟩];rfl
  iterate 7 refine AX ?_
  refine .cx rfl (λhc17=>?_) (λhc17=>?_)
  ·iterate 2 refine AX ?_
   refine .cl rfl C53 (.cons zH .nil) (aaH _ _) ?_;iterate 3 refine AX ?_
   refine .frz (t:=4) rfl (hb4) ?_;iterate 4 refine AX ?_
   refine⟨?_,rfl⟩;unfold bqY;rw[aI,aN ⟨by omega,by omega⟩];rfl
  iterate 7 refine AX ?_
  refine .cl rfl call134 (.cons (tm rfl) (.cons zH .nil)) (bfV _ aB _) ?_;iterate 7 refine AX ?_
  refine .seqTo 39 (.bool (decide ((toN y).2=0∧isN y=true∧ -1000000≤(toN y).1∧(toN y).1≤1000000))) [0,1,4,6] ?_ ?_
  ·iterate 4 refine AX ?_
   refine zC (t:=28) rfl (λhg28=>?_) (λhg28=>?_)
   ·have hh28:=hg28;try simp only[aO]at hh28
    refine AX ?_;refine .gs rfl rfl rfl aB (zB call135 (evs1 rfl) (bfW _ aB _)) ?_;rintro _ _ ⟨rfl,hH⟩;obtain rfl:=hH.symm;iterate 2 refine AX ?_
    refine zC (t:=32) rfl (λhg32=>?_) (λhg32=>?_)
    ·have hh32:=hg32;try simp only[aK]at hh32
     iterate 4 refine AX ?_
     refine zC (t:=36) rfl (λhg36=>?_) (λhg36=>?_)
     ·have hh36:=hg36;try simp only[aO]at hh36
      iterate 4 refine AX ?_
      exact⟨rfl,zL rfl (by(refine Eq.symm ?_;exact aT.2 ⟨λq=>q.2.2.2,λq=>⟨by omega,by assumption,by omega,q⟩⟩)) sX,rfl⟩
     have hh36:=hg36;try simp only[aM,dO]at hh36
     iterate 4 refine AX ?_
     exact⟨rfl,zL rfl (by(refine Eq.symm ?_;exact bB (λq=>by omega))) sX,rfl⟩
    have hh32:=hg32;try simp only[aK]at hh32
    iterate 8 refine AX ?_
    exact⟨rfl,zL rfl (by(refine Eq.symm ?_;exact bB (λq=>by rw[q.2.1]at hg32;cases hg32))) sX,rfl⟩
   have hh28:=hg28;try simp only[aM]at hh28
   iterate 12 refine AX ?_
   exact⟨rfl,zL rfl (by(refine Eq.symm ?_;exact bB (λq=>by omega))) sX,rfl⟩
  refine .sub [(39,_),(0,_),(1,_),(4,_),(6,_)] sX ?_;refine .cx rfl (λhc39=>?_) (λhc39=>?_)
  ·iterate 4 refine AX ?_
   refine .cl rfl call136 (evs2 rfl rfl) (ayR x hx _ aA _) (.cl rfl C35 (evs1 rfl) (qO _ aB _) ?_);iterate 3 refine AX ?_
   refine .frz (t:=4) rfl (hb4) ?_;iterate 3 refine AX ?_
   refine⟨?_,rfl⟩;unfold bqY;rw[aI,aI,aN aB];rfl
  iterate 6 refine AX ?_
  refine .cl rfl C55 (.cons zH .nil) (agE 2 aC _) (.cl rfl C54 (.cons (zR 4607182418800017408) (evs1 rfl)) (aiQ _ _ aC hhl _) ?_);iterate 3 refine AX ?_
  refine .cx rfl (λhc47=>?_) (λhc47=>?_)
  ·iterate 3 refine AX ?_
   refine .cl rfl call137 (evs1 rfl) (avB _ aB _) (.cl rfl C35 (evs1 rfl) (qO _ aB _) ?_);iterate 3 refine AX ?_
   refine .frz (t:=4) rfl (hb4) ?_;iterate 3 refine AX ?_
   refine⟨?_,rfl⟩;unfold bqY;rw[aI,aI,aL aB,aN (show y=brX from Int.ofNat_inj.1 hc47)];rfl
  iterate 4 refine AX ?_
  refine .cl rfl C53 (.cons zH .nil) (aaH _ _) ?_;iterate 3 refine AX ?_
  refine .frz (t:=4) rfl (hb4) ?_;iterate 2 refine AX ?_
  refine⟨?_,rfl⟩;unfold bqY;rw[aI,aI,aL aB,aL (show¬y=brX from λq=>hc47 (congrArg Int.ofNat q))];rfl
 iterate 6 refine AX ?_
 refine .cl rfl call134 (.cons (tm rfl) (.cons zH .nil)) (bfV _ aB _) ?_;iterate 7 refine AX ?_
 refine .seqTo 39 (.bool (decide ((toN y).2=0∧isN y=true∧ -1000000≤(toN y).1∧(toN y).1≤1000000))) [0,1,4,6] ?_ ?_
 ·iterate 4 refine AX ?_
  refine zC (t:=28) rfl (λhg28=>?_) (λhg28=>?_)
  ·have hh28:=hg28;try simp only[aO]at hh28
   refine AX ?_;refine .gs rfl rfl rfl aB (zB call135 (evs1 rfl) (bfW _ aB _)) ?_;rintro _ _ ⟨rfl,hH⟩;obtain rfl:=hH.symm;iterate 2 refine AX ?_
   refine zC (t:=32) rfl (λhg32=>?_) (λhg32=>?_)
   ·have hh32:=hg32;try simp only[aK]at hh32
    iterate 4 refine AX ?_
    refine zC (t:=36) rfl (λhg36=>?_) (λhg36=>?_)
    ·have hh36:=hg36;try simp only[aO]at hh36
     iterate 4 refine AX ?_
     exact⟨rfl,zL rfl (by(refine Eq.symm ?_;exact aT.2 ⟨λq=>q.2.2.2,λq=>⟨by omega,by assumption,by omega,q⟩⟩)) sX,rfl⟩
    have hh36:=hg36;try simp only[aM,dO]at hh36
    iterate 4 refine AX ?_
    exact⟨rfl,zL rfl (by(refine Eq.symm ?_;exact bB (λq=>by omega))) sX,rfl⟩
   have hh32:=hg32;try simp only[aK]at hh32
   iterate 8 refine AX ?_
   exact⟨rfl,zL rfl (by(refine Eq.symm ?_;exact bB (λq=>by rw[q.2.1]at hg32;cases hg32))) sX,rfl⟩
  have hh28:=hg28;try simp only[aM]at hh28
  iterate 12 refine AX ?_
  exact⟨rfl,zL rfl (by(refine Eq.symm ?_;exact bB (λq=>by omega))) sX,rfl⟩
 refine .sub [(39,_),(0,_),(1,_),(4,_),(6,_)] sX ?_;refine .cx rfl (λhc39=>?_) (λhc39=>?_)
 ·iterate 4 refine AX ?_
  refine .cl rfl call136 (evs2 rfl rfl) (ayR x hx _ aA _) (.cl rfl C35 (evs1 rfl) (qO _ aB _) ?_);iterate 3 refine AX ?_
  refine .frz (t:=4) rfl (hb4) ?_;iterate 3 refine AX ?_
  refine⟨?_,rfl⟩;unfold bqY;rw[aI,aI,aN aB];rfl
 iterate 6 refine AX ?_
 refine .cl rfl C55 (.cons zH .nil) (agE 2 aC _) (.cl rfl C54 (.cons (zR 4607182418800017408) (evs1 rfl)) (aiQ _ _ aC hhl _) ?_);iterate 3 refine AX ?_
 refine .cx rfl (λhc47=>?_) (λhc47=>?_)
 ·iterate 3 refine AX ?_
  refine .cl rfl call137 (evs1 rfl) (avB _ aB _) (.cl rfl C35 (evs1 rfl) (qO _ aB _) ?_);iterate 3 refine AX ?_
  refine .frz (t:=4) rfl (hb4) ?_;iterate 3 refine AX ?_
  refine⟨?_,rfl⟩;unfold bqY;rw[aI,aI,aL aB,aN (show y=brX from Int.ofNat_inj.1 hc47)];rfl
 iterate 4 refine AX ?_
 refine .cl rfl C53 (.cons zH .nil) (aaH _ _) ?_;iterate 3 refine AX ?_
 refine .frz (t:=4) rfl (hb4) ?_;iterate 2 refine AX ?_
 refine⟨?_,rfl⟩;unfold bqY;rw[aI,aI,aL aB,aL (show¬y=brX from λq=>hc47 (congrArg Int.ofNat q))];rfl
theorem aiS(l:Loc)(hk:l.ok)(hg:l.grp≠[])(x:Val)(x_b:x.bits<18446744073709551616)(x_t:x.text.length≤1000)(u:Val)(u_b:u.bits<18446744073709551616)(u_t:u.text.length≤1000)(F:Nat→Nat→Val)(fn:FuncId)(hent:∀args w,(callFunc fn args).run prog w= .ok (.enter fn args) w)(hF:∀x y,x<18446744073709551616→y<18446744073709551616→∀H,ACall prog fn [.int .u64 ((x:Nat):Int),.int .u64 ((y:Nat):Int)] H (λz H'=>z=(F x y).av∧H'=H))(f:Nat→List AV)(hf:ROK f)(b:Nat)(H:Heap)(hb:H.objs b=some (.box 189 (aaR f))):ACall prog 63 [opA l b,x.av,u.av,.func fn []] H (λy H'=>y=(awQ l x u F).av∧∃f',ROK f'∧H'=H.set b (.box 189 (aaR f'))):=by
 refine .of_body func63 rfl ntmps63 results63 rfl ?_;iterate 4 refine AX ?_
 refine .al zr24 (λb8 hb8=>?_);iterate 3 refine AX ?_
 have h8b:b8≠b:=by rintro rfl;rw[hb8]at hb;cases hb
 iterate 3 refine AX ?_
 refine .s rfl (zB C12 (evs2 rfl rfl) (abH l hk hg x x_b x_t f hf b _ ((oN _ _ h8b.symm).trans hb))) ?_;rintro _ _ ⟨rfl,f1,hf1,rfl⟩;rw[Heap.set_comm h8b];replace hb8:(H.set b (.box 189 (aaR f1))).objs b8=none:=(oN _ _ h8b).trans hb8;iterate 14 refine AX ?_
 refine .cx rfl (λhc19=>?_) (λhc19=>?_)
 ·iterate 3 refine AX ?_
  refine .cl rfl C53 (evs1 rfl) (aaH _ _) ?_;iterate 3 refine AX ?_
  refine .frz (t:=8) rfl (hb8) ?_;iterate 3 refine AX ?_
  refine⟨?_,f1,hf1,rfl⟩;unfold awQ;rw[aN (by simpa using hc19)];rfl
 iterate 6 refine AX ?_
 refine .s rfl (zB C12 (evs2 rfl rfl) (abH l hk hg u u_b u_t f1 hf1 b _ ((oN _ _ h8b.symm).trans (oS _ _ _)))) ?_;rintro _ _ ⟨rfl,f2,hf2,rfl⟩;rw[sU h8b.symm];replace hb8:(H.set b (.box 189 (aaR f2))).objs b8=none:=fS hb8 _;iterate 14 refine AX ?_
 refine .cx rfl (λhc29=>?_) (λhc29=>?_)
 ·iterate 3 refine AX ?_
  refine .cl rfl C53 (evs1 rfl) (aaH _ _) ?_;iterate 3 refine AX ?_
  refine .frz (t:=8) rfl (hb8) ?_;iterate 3 refine AX ?_
  refine⟨?_,f2,hf2,rfl⟩;unfold awQ;rw[aL (by simpa using hc19),aN (by simpa using hc29)];rfl
 iterate 7 refine AX ?_
 refine .e rfl (asR hent (tm rfl) (evs2 rfl rfl) (hF _ _ (aeA x_b) (aeA u_b) _)) ?_;iterate 3 refine AX ?_
 refine .frz (t:=8) rfl (hb8) ?_;iterate 2 refine AX ?_
 refine⟨?_,f2,hf2,rfl⟩;unfold awQ;rw[aL (by simpa using hc19),aL (by simpa using hc29)];rfl
theorem ajO(l:Loc)(hk:l.ok)(hg:l.grp≠[])(op:List UInt8)(v:Val)(v_b:v.bits<18446744073709551616)(v_t:v.text.length≤1000)(f:Nat→List AV)(hf:ROK f)(b:Nat)(H:Heap)(hb:H.objs b=some (.box 189 (aaR f))):ACall prog 20 [opA l b,.str op,v.av] H (λy H'=>y=(acV l op v).av∧∃f',ROK f'∧H'=H.set b (.box 189 (aaR f'))):=by
 have htl:=aeA (l:=l) v_b;have hhl:cnW<18446744073709551616:=afA _ _ _ _;have hdl:=bbN (aaZ l v).1 cnW;have hnl:=amQ htl;refine .of_body func20 rfl ntmps20 results20 rfl ?_;iterate 3 refine AX ?_
 refine .al zr24 (λb6 hb6=>?_);iterate 4 refine AX ?_
 refine .seqTo 9 (.bool (decide (v.kind=4∨op=[43]))) [0,1,5,6] ?_ ?_
 ·refine AX ?_;refine .p rfl (zA U24 rfl Z3 (tm rfl)) ?_;iterate 3 refine AX ?_
  refine zC (t:=13) rfl (λhg13=>?_) (λhg13=>?_)
  ·have hh13:=hg13;try simp only[aO]at hh13
   iterate 5 refine AX ?_
   exact⟨rfl,zL rfl (by(refine Eq.symm ?_;exact aY (.inl aB))) sX,rfl⟩
  have hh13:=hg13;try simp only[aM]at hh13
  iterate 5 refine AX ?_
  exact⟨rfl,zL rfl (by(refine Eq.symm ?_;(refine aT.2 ⟨λq=>?_,λq=>.inr q⟩;rcases q with q|q;exact absurd q aB;exact q))) sX,rfl⟩
 refine .sub [(9,_),(0,_),(1,_),(5,_),(6,_)] sX ?_;refine .cx rfl (λhc9=>?_) (λhc9=>?_)
 ·iterate 6 refine AX ?_
  refine .frz (t:=6) rfl (hb6) ?_;iterate 4 refine AX ?_
  refine⟨?_,f,hf,(Heap.set_self hb).symm⟩;unfold acV;rw[aN hc9];rfl
 refine .sB 18 (decide (op≠[45]∧op≠[37])) [0,1,5,6] ?_
 ·refine .sub [(18,_),(0,_),(1,_),(5,_),(6,_)] sX ?_;refine .cx rfl (λhc18=>?_) (λhc18=>?_)
  ·iterate 2 refine AX ?_
   refine .cl rfl C53 (.cons zH .nil) (aaH _ _) ?_;iterate 3 refine AX ?_
   refine .frz (t:=6) rfl (hb6) ?_;iterate 4 refine AX ?_
   refine⟨?_,f,hf,(Heap.set_self hb).symm⟩;unfold acV;rw[aL hc9,aN hc18];rfl
  have h8b:b6≠b:=by rintro rfl;rw[hb6]at hb;cases hb
  iterate 7 refine AX ?_
  refine .s rfl (zB C12 (evs2 rfl rfl) (abH l hk hg v v_b v_t f hf b _ ((oN _ _ h8b.symm).trans hb))) ?_;rintro _ _ ⟨rfl,f1,hf1,rfl⟩;rw[Heap.set_comm h8b];replace hb6:(H.set b (.box 189 (aaR f1))).objs b6=none:=(oN _ _ h8b).trans hb6;iterate 14 refine AX ?_
  refine .cx rfl (λhc33=>?_) (λhc33=>?_)
  ·iterate 3 refine AX ?_
   refine .cl rfl C53 (evs1 rfl) (aaH _ _) ?_;iterate 3 refine AX ?_
   refine .frz (t:=6) rfl (hb6) ?_;iterate 3 refine AX ?_
   refine⟨?_,f1,hf1,rfl⟩;unfold acV;rw[aL hc9,aL hc18,aN (by simpa using hc33)];rfl
  iterate 9 refine AX ?_
  refine .cx rfl (λhc37=>?_) (λhc37=>?_)
  ·iterate 3 refine AX ?_
   refine .cl rfl C55 (.cons zH .nil) (agE 100 aC _) (.cl rfl C54 (evs2 rfl rfl) (aiQ _ _ htl hhl _) (.cl rfl C35 (evs1 rfl) (qO _ hdl _) ?_));iterate 3 refine AX ?_
   refine .frz (t:=6) rfl (hb6) ?_;iterate 3 refine AX ?_
   refine⟨?_,f1,hf1,rfl⟩;unfold acV;rw[aL hc9,aL hc18,aL (by simpa using hc33),aN (by simpa using hc37)];rfl
  iterate 5 refine AX ?_
  refine .cl rfl call56 (evs1 rfl) (ayS _ htl _) (.cl rfl C35 (evs1 rfl) (qO _ hnl _) ?_);iterate 3 refine AX ?_
  refine .frz (t:=6) rfl (hb6) ?_;iterate 2 refine AX ?_
  refine⟨?_,f1,hf1,rfl⟩;unfold acV;rw[aL hc9,aL hc18,aL (by simpa using hc33),aL (by simpa using hc37)];rfl
theorem qF(l:Loc)(hk:l.ok)(hg:l.grp≠[])(op:List UInt8)(x:Val)(x_b:x.bits<18446744073709551616)(x_t:x.text.length≤1000)(u:Val)(u_b:u.bits<18446744073709551616)(u_t:u.text.length≤1000)(lx:(adN l x).1.length≤1000000)(lu:(adN l u).1.length≤1000000)(f:Nat→List AV)(hf:ROK f)(b:Nat)(H:Heap)(hb:H.objs b=some (.box 189 (aaR f))):ACall prog 22 [opA l b,.str op,x.av,u.av] H (λy H'=>y=(yR l op x u).av∧∃f',ROK f'∧H'=H.set b (.box 189 (aaR f'))):=by
 have hcat:((adN l x).1++(adN l u).1).length≤maxLen:=by rw[aP,zJ];omega
 refine .of_body func22 rfl ntmps22 results22 rfl ?_;iterate 4 refine AX ?_
 refine .al zr24 (λb8 hb8=>?_);iterate 5 refine AX ?_
 have h8b:b8≠b:=by rintro rfl;rw[hb8]at hb;cases hb
 refine AX ?_;refine .p rfl (zA U24 rfl Z3 (tm rfl)) ?_;iterate 5 refine AX ?_
 refine .cx rfl (λhc14=>?_) (λhc14=>?_)
 ·iterate 6 refine AX ?_
  refine .frz (t:=8) rfl (hb8) ?_;iterate 4 refine AX ?_
  refine⟨?_,f,hf,(Heap.set_self hb).symm⟩;unfold yR;rw[aN hc14];rfl
 iterate 2 refine AX ?_
 refine .p rfl (zA U24 rfl Z3 (tm rfl)) ?_;iterate 5 refine AX ?_
 refine .cx rfl (λhc19=>?_) (λhc19=>?_)
 ·iterate 6 refine AX ?_
  refine .frz (t:=8) rfl (hb8) ?_;iterate 4 refine AX ?_
  refine⟨?_,f,hf,(Heap.set_self hb).symm⟩;unfold yR;rw[aL hc14,aN hc19];rfl
 iterate 8 refine AX ?_
 refine .cl rfl C18 (evs3 rfl rfl rfl) (abQ _ x u x_b u_b aA aA _) ?_;iterate 16 refine AX ?_
 refine .cx rfl (λhc29=>?_) (λhc29=>?_)
 ·iterate 4 refine AX ?_
  refine .cl rfl C61 (evs1 rfl) (aeM _ _) ?_;iterate 3 refine AX ?_
  refine .frz (t:=8) rfl (hb8) ?_;iterate 4 refine AX ?_
  refine⟨?_,f,hf,(Heap.set_self hb).symm⟩;unfold yR;rw[aL hc14,aL hc19,aN hc29];rfl
 iterate 6 refine AX ?_
 refine .cx rfl (λhc34=>?_) (λhc34=>?_)
 ·iterate 4 refine AX ?_
  refine .cl rfl C61 (evs1 rfl) (aeM _ _) ?_;iterate 3 refine AX ?_
  refine .frz (t:=8) rfl (hb8) ?_;iterate 4 refine AX ?_
  refine⟨?_,f,hf,(Heap.set_self hb).symm⟩;unfold yR;rw[aL hc14,aL hc19,aL hc29,aN hc34];rfl
 iterate 6 refine AX ?_
 refine .cx rfl (λhc39=>?_) (λhc39=>?_)
 ·iterate 4 refine AX ?_
  refine .cl rfl C61 (evs1 rfl) (aeM _ _) ?_;iterate 3 refine AX ?_
  refine .frz (t:=8) rfl (hb8) ?_;iterate 4 refine AX ?_
  refine⟨?_,f,hf,(Heap.set_self hb).symm⟩;unfold yR;rw[aL hc14,aL hc19,aL hc29,aL hc34,aN hc39];rfl
 iterate 6 refine AX ?_
 refine .cx rfl (λhc44=>?_) (λhc44=>?_)
 ·iterate 4 refine AX ?_
  refine .cl rfl C61 (evs1 rfl) (aeM _ _) ?_;iterate 3 refine AX ?_
  refine .frz (t:=8) rfl (hb8) ?_;iterate 4 refine AX ?_
  refine⟨?_,f,hf,(Heap.set_self hb).symm⟩;unfold yR;rw[aL hc14,aL hc19,aL hc29,aL hc34,aL hc39,aN hc44];rfl
 iterate 6 refine AX ?_
 refine .cx rfl (λhc49=>?_) (λhc49=>?_)
 ·iterate 4 refine AX ?_
  refine .cl rfl C61 (evs1 rfl) (aeM _ _) ?_;iterate 3 refine AX ?_
  refine .frz (t:=8) rfl (hb8) ?_;iterate 4 refine AX ?_
  refine⟨?_,f,hf,(Heap.set_self hb).symm⟩;unfold yR;rw[aL hc14,aL hc19,aL hc29,aL hc34,aL hc39,aL hc44,aN hc49];rfl
 iterate 6 refine AX ?_
 refine .cx rfl (λhc54=>?_) (λhc54=>?_)
 ·iterate 4 refine AX ?_
  refine .cl rfl C61 (evs1 rfl) (aeM _ _) ?_;iterate 3 refine AX ?_
  refine .frz (t:=8) rfl (hb8) ?_;iterate 4 refine AX ?_
  refine⟨?_,f,hf,(Heap.set_self hb).symm⟩;unfold yR;rw[aL hc14,aL hc19,aL hc29,aL hc34,aL hc39,aL hc44,aL hc49,aN hc54];rfl
 iterate 6 refine AX ?_
 refine .cx rfl (λhc59=>?_) (λhc59=>?_)
 ·iterate 4 refine AX ?_
  refine .cl rfl call16 (evs2 rfl rfl) (arF l hk b x x_b x_t _) ?_;iterate 11 refine AX ?_
  refine .cl rfl call16 (evs2 rfl rfl) (arF l hk b u u_b u_t _) ?_;iterate 11 refine AX ?_
  refine .p rfl (zS (tm rfl) (tm rfl) (by rw[←aP];exact hcat)) (.cl rfl call62 (evs1 rfl) (bhJ _ hcat _) ?_);iterate 3 refine AX ?_
  refine .frz (t:=8) rfl (hb8) ?_;iterate 4 refine AX ?_
  refine⟨?_,f,hf,(Heap.set_self hb).symm⟩;unfold yR;rw[aL hc14,aL hc19,aL hc29,aL hc34,aL hc39,aL hc44,aL hc49,aL hc54,aN hc59];rfl
 iterate 6 refine AX ?_
 refine .cx rfl (λhc77=>?_) (λhc77=>?_)
 ·iterate 5 refine AX ?_
  refine .s rfl (zB C63 (.cons (tm rfl) (.cons (tm rfl) (.cons (tm rfl) (.cons (.func _) .nil)))) (aiS l hk hg x x_b x_t u u_b u_t (λx y=>ajW (ajI x y)) 64 call64 (λx y hx hy H=>brG x y hx hy H) f hf b _ ((oN _ _ h8b.symm).trans hb))) ?_;rintro _ _ ⟨rfl,f1,hf1,rfl⟩;rw[Heap.set_comm h8b];replace hb8:(H.set b (.box 189 (aaR f1))).objs b8=none:=(oN _ _ h8b).trans hb8;iterate 3 refine AX ?_
  refine .frz (t:=8) rfl (hb8) ?_;iterate 4 refine AX ?_
  refine⟨?_,f1,hf1,rfl⟩;unfold yR;rw[aL hc14,aL hc19,aL hc29,aL hc34,aL hc39,aL hc44,aL hc49,aL hc54,aL hc59,aN hc77];rfl
 iterate 6 refine AX ?_
 refine .cx rfl (λhc83=>?_) (λhc83=>?_)
 ·iterate 5 refine AX ?_
  refine .s rfl (zB C63 (.cons (tm rfl) (.cons (tm rfl) (.cons (tm rfl) (.cons (.func _) .nil)))) (aiS l hk hg x x_b x_t u u_b u_t (λx y=>ajW (ajI x (ajS y))) 65 call65 (λx y hx hy H=>brD x y hx hy H) f hf b _ ((oN _ _ h8b.symm).trans hb))) ?_;rintro _ _ ⟨rfl,f1,hf1,rfl⟩;rw[Heap.set_comm h8b];replace hb8:(H.set b (.box 189 (aaR f1))).objs b8=none:=(oN _ _ h8b).trans hb8;iterate 3 refine AX ?_
  refine .frz (t:=8) rfl (hb8) ?_;iterate 4 refine AX ?_
  refine⟨?_,f1,hf1,rfl⟩;unfold yR;rw[aL hc14,aL hc19,aL hc29,aL hc34,aL hc39,aL hc44,aL hc49,aL hc54,aL hc59,aL hc77,aN hc83];rfl
 iterate 6 refine AX ?_
 refine .cx rfl (λhc89=>?_) (λhc89=>?_)
 ·iterate 5 refine AX ?_
  refine .s rfl (zB C63 (.cons (tm rfl) (.cons (tm rfl) (.cons (tm rfl) (.cons (.func _) .nil)))) (aiS l hk hg x x_b x_t u u_b u_t (λx y=>ajW (afD x y)) 66 call66 (λx y hx hy H=>brE x y hx hy H) f hf b _ ((oN _ _ h8b.symm).trans hb))) ?_;rintro _ _ ⟨rfl,f1,hf1,rfl⟩;rw[Heap.set_comm h8b];replace hb8:(H.set b (.box 189 (aaR f1))).objs b8=none:=(oN _ _ h8b).trans hb8;iterate 3 refine AX ?_
  refine .frz (t:=8) rfl (hb8) ?_;iterate 4 refine AX ?_
  refine⟨?_,f1,hf1,rfl⟩;unfold yR;rw[aL hc14,aL hc19,aL hc29,aL hc34,aL hc39,aL hc44,aL hc49,aL hc54,aL hc59,aL hc77,aL hc83,aN hc89];rfl
 iterate 6 refine AX ?_
 refine .cx rfl (λhc95=>?_) (λhc95=>?_)
 ·iterate 5 refine AX ?_
  refine .s rfl (zB C63 (.cons (tm rfl) (.cons (tm rfl) (.cons (tm rfl) (.cons (.func _) .nil)))) (aiS l hk hg x x_b x_t u u_b u_t ckR 67 call67 (λx y hx hy H=>brF x y hx hy H) f hf b _ ((oN _ _ h8b.symm).trans hb))) ?_;rintro _ _ ⟨rfl,f1,hf1,rfl⟩;rw[Heap.set_comm h8b];replace hb8:(H.set b (.box 189 (aaR f1))).objs b8=none:=(oN _ _ h8b).trans hb8;iterate 3 refine AX ?_
  refine .frz (t:=8) rfl (hb8) ?_;iterate 4 refine AX ?_
  refine⟨?_,f1,hf1,rfl⟩;unfold yR;rw[aL hc14,aL hc19,aL hc29,aL hc34,aL hc39,aL hc44,aL hc49,aL hc54,aL hc59,aL hc77,aL hc83,aL hc89,aN hc95];rfl
 iterate 6 refine AX ?_
 refine .cx rfl (λhc101=>?_) (λhc101=>?_)
 ·iterate 5 refine AX ?_
  refine .s rfl (zB C63 (.cons (tm rfl) (.cons (tm rfl) (.cons (tm rfl) (.cons (.func _) .nil)))) (aiS l hk hg x x_b x_t u u_b u_t bqY 68 call68 (λx y hx hy H=>bfB x y hx hy H) f hf b _ ((oN _ _ h8b.symm).trans hb))) ?_;rintro _ _ ⟨rfl,f1,hf1,rfl⟩;rw[Heap.set_comm h8b];replace hb8:(H.set b (.box 189 (aaR f1))).objs b8=none:=(oN _ _ h8b).trans hb8;iterate 3 refine AX ?_
  refine .frz (t:=8) rfl (hb8) ?_;iterate 4 refine AX ?_
  refine⟨?_,f1,hf1,rfl⟩;unfold yR;rw[aL hc14,aL hc19,aL hc29,aL hc34,aL hc39,aL hc44,aL hc49,aL hc54,aL hc59,aL hc77,aL hc83,aL hc89,aL hc95,aN hc101];rfl
 iterate 5 refine AX ?_
 refine .cl rfl C53 (.cons zH .nil) (aaH _ _) ?_;iterate 3 refine AX ?_
 refine .frz (t:=8) rfl (hb8) ?_;iterate 2 refine AX ?_
 refine⟨?_,f,hf,(Heap.set_self hb).symm⟩;unfold yR;rw[aL hc14,aL hc19,aL hc29,aL hc34,aL hc39,aL hc44,aL hc49,aL hc54,aL hc59,aL hc77,aL hc83,aL hc89,aL hc95,aL hc101];rfl
end Go.Proofs.YtmmgbnolccpjoaaGreatDoor
