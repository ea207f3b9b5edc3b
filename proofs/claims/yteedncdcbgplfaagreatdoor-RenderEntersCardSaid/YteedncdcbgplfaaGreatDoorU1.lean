import Derived.Test.YteedncdcbgplfaaGreatDoorQ3
set_option maxHeartbeats 1000000
namespace Go.Proofs.YteedncdcbgplfaaGreatDoor
open Go.Proofs.Tryz
open Go Go.RowKit
variable{l:Loc}{t:List UInt8}
section
set_option maxRecDepth 100000
def cmF:AV→Value
 | .int k n=>.int k n
 | .bool b=>.bool b
 |_=>undef
theorem bkX:Tryz.zeroCells227=((adM λ_=>slotF).map cmF).toArray:=by kernel_rfl
theorem bzG{g:G}:∀{cs:List AV},(∀c,c∈cs→RelV g c (cmF c))→RelCells g cs (cs.map cmF).toArray:=fun{cs} h=>by
 refine⟨by simp,λi c v hc hv=>?_⟩;simp only[List.getElem?_toArray,cT,hc,Option.map_some,Option.some.injEq]at hv;subst hv;exact h c (fP hc)
theorem zrR:∀g,RelCells g (adM λ_=>slotF) (Value.cells (Value.agg Tryz.zeroCells227)):=λg=>by
 show RelCells g _ Tryz.zeroCells227;rw[bkX];refine bzG λc hc=>?_;unfold adM at hc;obtain⟨i,_,hc⟩:=List.mem_flatMap.1 hc;simp only[slotF,dG,gH,or_false]at hc;rcases hc with rfl|rfl|rfl|rfl|rfl|rfl|rfl<;>first|exact .int _ _|exact .bool _
theorem plR(fs:Array Field)(hfs:prog.underlying 227=some (.struct fs)):∀(i:Nat) f p,fs[i]?=some f→[(0,5607)][i]?=some p→∀w,(sizeOf f.type).run prog w= .ok p.2 w:=by
 have e:=(Option.some.inj (hfs.symm.trans U227));cases e
 intro i f p hf hp w
 match i with
 |0=>cases hf;cases hp;exact Z225 w
 |i+1=>simp at hp
def bkG:Nat→List AV:=λ_=>slotF
theorem bvP:ROK bkG:=λ_=>.inl rfl
theorem bmN(H:Heap):ACall prog 63 [] H (λy H'=>∃b,H.objs b=none∧y= .ptr (some ⟨b,0,none⟩)∧H'=H.set b (.box 227 (adM bkG))):=by
 refine .of_body func63 rfl ntmps63 results63 rfl ?_;iterate 2 refine AX ?_
 refine .p rfl (zE anB) ?_;iterate 4 refine AX ?_
 refine .p rfl (yY [(0,5607)] U227 zeroValue227 zrR rfl (plR _ U227) .nil rfl) (.s rfl (ajM (tm rfl) (.inr ⟨_,rfl⟩)) ?_);rintro _ _ ⟨b2,hb2,rfl,hH⟩;obtain rfl:=hH.symm;iterate 5 refine AX ?_
 exact⟨b2,hb2,rfl,rfl⟩
theorem zr120:ZR 120 [.str [],.str [],.str [],.str [],.str [],.str [],.str [],.bool false,.bool false,.slice 1 [] .full,.ptr none]:=ZRi zeroValue120
theorem pl120:PL 120 [(0,10),(10,1)]:=PLi U120
def erA(l:Loc)(b:Nat):AV:=.iptr ((pL l (szA l)).cells++[.ptr (some ⟨b,0,none⟩)])
theorem boT(l:Loc)(H:Heap):ACall prog 24 [pL l (szA l)] H (λy H'=>∃b,H.objs b=none∧y=erA l b∧H'=H.set b (.box 227 (adM bkG))):=by
 refine .of_body func24 rfl ntmps24 results24 rfl ?_;iterate 3 refine AX ?_
 refine .p rfl (zE anB) ?_;iterate 3 refine AX ?_
 refine .draw [(0,true),(1,false),(2,true),(3,true),(4,true)] rfl aE ?_;refine AX ?_;refine .s rfl rfl (zB call63 .nil (bmN _)) ?_;rintro _ _ ⟨b,hb,rfl,rfl⟩;refine .p rfl rfl (yU zr120 pl120 (.cons (tm rfl) (.inr ⟨_,rfl⟩) (.cons (tm rfl) (.inl rfl) .nil)) rfl) ?_;refine .f rfl rfl (λ_=>acJ (tm rfl) (.inr ⟨_,rfl⟩)) ?_;iterate 5 refine AX ?_
 exact⟨b,hb,rfl,rfl⟩
end
section
open Go Go.RowKit
set_option maxRecDepth 100000
def aeD(l:Loc)(s:List UInt8):List UInt8×Bool:=
 if Lib.hasPrefix s [43]=true then(Lib.trimPrefix s [43],false)
 else if Lib.hasPrefix s [45]=true then(Lib.trimPrefix s [45],true)
 else if Lib.hasPrefix s l.minus=true then(Lib.trimPrefix s l.minus,true)
 else(s,false)
theorem baL(l:Loc)(s:List UInt8):(aeD l s).1.length≤s.length:=by
 unfold aeD
 repeat' split
 all_goals first|exact afM _ _|exact aZ _
def amT(l:Loc):List (List UInt8):=[[45],l.minus]
def bpZ(l:Loc)(s:List UInt8):Option Int:=
 if(aeD l s).1≠[]∧awN (aeD l s).1=true∧(aeD l s).1.length≤9 then some (if(aeD l s).2=true then-(num (aeD l s).1:Int)else(num (aeD l s).1:Int))else none
theorem bvW{s:List UInt8}{b:Bool}(ht:aeD l s=(t,b))(h:(anH t||decide (9<(t.length:Int))||decide (aaV aeQ t.length t≠[]))=true):bpZ l s=none:=by
 unfold bpZ;rw[ht,aM];rintro⟨h1,h2,h3⟩;have hd:=aeZ.1 h2;simp only[dB,aT]at h;rcases h with(h|h)|h
 ·unfold anH at h;rw[bhH h1 hd (by have h4:t.length≤9:=h3;show t.length≤18;omega)]at h;cases h
 ·have h4:t.length≤9:=h3;omega
 exact h ((afJ _ _ (aZ _)).2 hd)
theorem bvV{s:List UInt8}{b:Bool}(ht:aeD l s=(t,b))(h:(anH t||decide (9<(t.length:Int))||decide (aaV aeQ t.length t≠[]))=false):t≠[]∧Digs t∧t.length≤9∧bpZ l s=some (if b=true then-(num t:Int)else(num t:Int)):=by
 simp only[dQ,aR,gQ]at h;obtain⟨⟨h1,h2⟩,h3⟩:=h;have hd:=(afJ _ _ (aZ _)).1 h3;have hne:t≠[]:=by
  rintro rfl;unfold anH at h1;simp[Lib.atoiAll]at h1
 refine⟨hne,hd,by omega,?_⟩;unfold bpZ;rw[ht,aN ⟨hne,aeZ.2 hd,by simp only;omega⟩]
theorem ckP(hd:Digs t)(hl:t.length≤9):num t<1000000000:=bQ (ahK hd) (bC (bB aC hl) aC)
def cdI(l:Loc)(_:Nat)(s:List UInt8)(H:Heap):Nat→Env→Heap→Prop:=λk env H1=>∃i:Nat,i≤2∧(∀j,j<i→Lib.hasPrefix s ((amT l).getD j [])=false)∧env=[(1,.str s),(24,.slice 1 ((amT l).map .str) .full),(25,.int .i64 2),(26,.int .i64 (i:Int))]∧H=H1∧k=2-i
theorem auR(l:Loc)(b:Nat)(s:List UInt8):Fn 68 [erA l b,.str s] (.tuple [.str (aeD l s).1,.bool (aeD l s).2]):=by
 intro H;refine .of_body func68 rfl ntmps68 results68 rfl ?_;iterate 10 refine AX ?_
 refine .cl rfl C66 (.cons (tm rfl) (.cons (zO rfl) .nil)) (cutPrefixA _ _ _) ?_;iterate 12 refine AX ?_
 refine .cx rfl (λhc17=>?_) (λhc17=>?_)
 ·iterate 10 refine AX ?_
  refine⟨?_,rfl⟩;unfold aeD;rw[aN hc17];rfl
 iterate 7 refine AX ?_
 refine .p rfl (zA U120 rfl Z32 (tm rfl)) (.p rfl (zA U32 rfl Z9 (tm rfl)) ?_);refine AX ?_;refine .e rfl (aeT U184 Z9 zeroValue9 rfl (zO rfl) (.inl rfl) ⟨rfl,rfl⟩ (tm rfl) (.inl rfl) ⟨rfl,rfl⟩) (.p rfl (afU U184 (tm rfl)) ?_);iterate 4 refine AX ?_
 refine .loopW (cdI l b s H) (2) ⟨0,by omega,λj h=>absurd h (Nat.not_lt_zero _),rfl,rfl,rfl⟩ sX (hRa _) ?_;rintro _ _ _ ⟨i,hi,hp,rfl,rfl,rfl⟩;iterate 6 refine AX ?_
 refine .cx rfl (λhc27=>?_) (λhc27=>?_)
 ·have hi2:i<2:=by omega
  have hil:i<(amT l).length:=hi2;have hgi:(amT l)[i]=(amT l).getD i []:=by rw[aP,aX hil];rfl
  iterate 15 refine AX ?_
  refine .cl rfl C66 (evs2 rfl rfl) (cutPrefixA _ _ _) ?_;iterate 12 refine AX ?_
  refine .cx rfl (λhc36=>?_) (λhc36=>?_)
  ·iterate 14 refine AX ?_
   refine⟨?_,rfl⟩;unfold aeD;rcases(by omega:i=0∨i=1)with rfl|rfl
   ·rw[aM (by simp[hc17]),aN (show Lib.hasPrefix s [45]=true from hc36)];rfl
   rw[aM (by simp[hc17]),aM (by have:=hp 0 aC;simpa[amT]using this),aN (show Lib.hasPrefix s l.minus=true from hc36)];rfl
  iterate 8 refine AX ?_
  have hpi:Lib.hasPrefix s ((amT l).getD i [])=false:=by rw[←hgi];exact hc36
  refine Round.mk ⟨i+1,by omega,λj hj=>by rcases bX j i with h|h;exact hp j h;rw[show j=i by omega];exact hpi,rfl,rfl,rfl⟩ sX (hRa _) aA
 iterate 14 refine AX ?_
 refine⟨?_,rfl⟩;unfold aeD;have h2:i=2:=by omega
 subst h2;rw[aM (by simp[hc17]),aM (by have:=hp 0 aC;simpa[amT]using this),aM (by have:=hp 1 aC;simpa[amT]using this)];rfl
theorem auD(l:Loc)(b:Nat)(s:List UInt8)(hs:s.length≤2000):Fn 223 [erA l b,.str s] (.tuple [.int .i64 ((bpZ l s).getD 0),.bool (bpZ l s).isSome]):=by
 intro H;have hsl:=baL l s;obtain⟨⟨t,m⟩,ht⟩:∃q,aeD l s=q:=⟨_,rfl⟩;rw[ht]at hsl;have hsl2:t.length≤2000:=by have:t.length≤s.length:=hsl;omega
 refine .of_body func223 rfl ntmps223 results223 rfl ?_;iterate 10 refine AX ?_
 refine .cl rfl call68 (evs2 rfl rfl) ((by have h:=auR l b s;rw[ht]at h;exact h _)) ?_;iterate 10 refine AX ?_
 refine .s rfl (zB call102 (evs1 rfl) (atoiAny t aA _)) ?_;rintro _ _ ⟨⟨v,ev,rfl,hev,hv⟩,hH⟩;obtain rfl:=hH.symm;iterate 8 refine AX ?_
 refine .seqTo 31 (.bool (anH t||decide (9<(t.length:Int))||decide (aaV aeQ t.length t≠[]))) [4,5,6,7] ?_ ?_
 ·iterate 2 refine AX ?_
  refine .p rfl (bmW underlying169 (tm rfl) hev) ?_;refine AX ?_;refine zD (t:=22) rfl (λhg22=>?_) (λhg22=>?_)
  ·iterate 10 refine AX ?_
   exact⟨rfl,zS rfl (by(rw[show anH t=_ from hg22];rfl)) sX,rfl⟩
  iterate 5 refine AX ?_
  refine zD (t:=27) rfl (λhg27=>?_) (λhg27=>?_)
  ·iterate 5 refine AX ?_
   exact⟨rfl,zS rfl (by(rw[show anH t=_ from hg22,show decide (9<(t.length:Int))=_ from hg27];rfl)) sX,rfl⟩
  refine AX ?_;refine .gs rfl rfl rfl aB (zB C69 (.cons (tm rfl) (.cons (.func _) .nil)) (trimDigitsA t _)) ?_;rintro _ _ ⟨rfl,hH⟩;obtain rfl:=hH.symm;iterate 3 refine AX ?_
  exact⟨rfl,zS rfl (by(simp[*];done)) sX,rfl⟩
 refine .sub [(31,_),(4,_),(5,_),(6,_),(7,_)] sX ?_;refine .cx rfl (λhc31=>?_) (λhc31=>?_)
 ·have hex:=bvW ht hc31;iterate 9 refine AX ?_
  refine⟨?_,rfl⟩;rw[hex];rfl
 obtain⟨hne,hdt,hl9,hex⟩:=bvV ht hc31;have hv2:v=(num t:Int):=by
  simp only[dQ]at hc31;have h1:=hv hc31.1.1;rw[bhH hne hdt aA]at h1;injection h1 with h1;exact h1.symm
 subst hv2;have hn9:=ckP hdt hl9;iterate 2 refine AX ?_
 refine .seqToL [(7,.int .i64 (if m=true then-(num t:Int)else(num t:Int)))] [4,5] ?_ ?_
 ·iterate 5 refine AX ?_
  refine .cx rfl (λhc32=>?_) (λhc32=>?_)
  ·iterate 5 refine AX ?_
   exact⟨rfl,(zR rfl (by(rw[aN (show m=true from hc32)];done)) sX),rfl⟩
  refine AX ?_;exact⟨rfl,(zR rfl (by(rw[aM (by rw[show m=false from hc32];decide)];done)) sX),rfl⟩
 refine .sub [(7,_),(4,_),(5,_)] sX ?_;iterate 9 refine AX ?_
 refine⟨?_,rfl⟩;rw[hex];rfl
end
section
open Go Go.RowKit
set_option maxRecDepth 100000
def abC(l:Loc)(i:Nat):Nat:=if i=0 then 3 else if l.second=2 then 2 else 3
def cdG(l:Loc):List Int:=if l.second=2 then [3,2]else [3]
theorem brB(l:Loc):(cdG l).length=(if l.second=2 then 2 else 1)∧∀(j:Nat)(h:j<(cdG l).length),(cdG l)[j]=if j=0 then 3 else 2:=by
 unfold cdG;split
 ·refine⟨rfl,λj h=>?_⟩
  match j,h with
  |0,_=>rfl
  |1,_=>rfl
 refine⟨rfl,λj h=>?_⟩
 match j,h with
 |0,_=>rfl
theorem ahB(l:Loc)(i:Nat):2≤abC l i∧abC l i≤3:=by
  unfold abC
  repeat' split
  all_goals omega
theorem byF(l:Loc)(i:Nat):anA 1 (if(asK (i:Int) (((cdG l).length:Int)-1)).toNat=0 then 3 else 2)=(abC l i:Int):=by
 rw[(brB l).1];unfold abC;simp only[anA,asK]
 repeat' split
 all_goals (first|omega|(exfalso;simp_all;done)|simp_all)
def akQ(l:Loc):Nat→Nat→List UInt8→List UInt8→List UInt8
 |0,_,d,s=>d++s
 |f+1,i,d,s=>if abC l i<d.length then akQ l f (i+1) (d.take (d.length-abC l i)) (l.grp++d.drop (d.length-abC l i)++s)else d++s
theorem bcK(l:Loc):∀(f g i:Nat)(d s:List UInt8),d.length≤f→d.length≤g→akQ l f i d s=akQ l g i d s
 |0,0,_,_,_,_,_=>rfl
 |0,g+1,i,d,s,hf,_=>by
  unfold akQ;rw[aJ]
 |f+1,0,i,d,s,_,hg=>by
  unfold akQ;rw[aJ]
 |f+1,g+1,i,d,s,hf,hg=>by
  have:=ahB l i;unfold akQ;split
  ·exact bcK l f g _ _ _ (by rw[aV];omega) (by rw[aV];omega)
  rfl
def ajB(l:Loc)(d:List UInt8):List UInt8:=akQ l d.length 0 d []
theorem bvF{i:Nat}{d s:List UInt8}(h:abC l i<d.length):akQ l d.length i d s=akQ l (d.take (d.length-abC l i)).length (i+1) (d.take (d.length-abC l i)) (l.grp++d.drop (d.length-abC l i)++s):=by
 have h2:=ahB l i;obtain⟨n,hn⟩:∃n,d.length=n+1:=⟨d.length-1,by omega⟩;have e:akQ l d.length i d s=akQ l (n+1) i d s:=by rw[hn]
 rw[e,akQ,aN h];refine bcK l _ _ _ _ _ ?_ ?_<;>simp only[aV]<;>omega
theorem cbN{i:Nat}{d s:List UInt8}(h:¬abC l i<d.length):akQ l d.length i d s=d++s:=by
 cases hd:d.length with
 |zero=>rfl
 |succ n=>rw[akQ,aM h]
theorem bjL(x:UInt8):([48,49,50,51,52,53,54,55,56,57]:List UInt8).contains x=true↔isD x:=by
 have key:∀n:Fin 256,(([48,49,50,51,52,53,54,55,56,57]:List UInt8).contains (UInt8.ofNat n.1))=decide (48≤n.1∧n.1≤57):=by decide+kernel
 have hx:=key ⟨x.toNat,x.toNat_lt⟩;rw[show UInt8.ofNat x.toNat=x by simp]at hx;rw[hx,aT];rfl
theorem asT{p:UInt8→Bool}:∀{l:List UInt8},l.dropWhile p=[]↔∀x,x∈l→p x=true
 | []=>by simp
 |x::l=>by
  rw[eC];split
  ·rename_i h
   rw[asT];constructor
   ·intro q y hy;rcases dG.1 hy with rfl|hy
    ·exact h
    exact q y hy
   intro q y hy;exact q y (by simp[hy])
  rename_i h
  constructor
  ·intro q;simp at q
  intro q;exact absurd (q x aF) h
theorem aoK(s:List UInt8):Lib.trimS s [48,49,50,51,52,53,54,55,56,57]=[]↔Digs s:=by
 show((s.reverse.dropWhile (([48,49,50,51,52,53,54,55,56,57]:List UInt8).contains ·)).reverse.dropWhile (([48,49,50,51,52,53,54,55,56,57]:List UInt8).contains ·))=[]↔_;rw[asT];constructor
 ·intro h;have h1:s.reverse.dropWhile (([48,49,50,51,52,53,54,55,56,57]:List UInt8).contains ·)=[]:=by
   cases hc:s.reverse.dropWhile (([48,49,50,51,52,53,54,55,56,57]:List UInt8).contains ·)with
   |nil=>rfl
   |cons x r=>
    have hx:=h x (by rw[hc];simp);have hn:=List.head?_dropWhile_not (p:=λx=>([48,49,50,51,52,53,54,55,56,57]:List UInt8).contains x) (l:=s.reverse);rw[hc]at hn;simp only[List.head?_cons]at hn;rw[hx]at hn;cases hn
  intro x hx;exact(bjL x).1 (asT.1 h1 x (by simpa using hx))
 intro h x hx;refine(bjL x).2 (h x ?_);have:=(eM (l:=s.reverse) (([48,49,50,51,52,53,54,55,56,57]:List UInt8).contains ·)).subset (by simpa using hx);simpa using this
def ahH(l:Loc)(s:List UInt8):Option (List UInt8):=
 if Lib.replaceAll s l.grp []=[]∨awN (Lib.replaceAll s l.grp [])=false then none
 else if Lib.replaceAll s l.grp []≠s∧ajB l (Lib.replaceAll s l.grp [])≠s then none
 else some (Lib.replaceAll s l.grp [])
theorem azB{s:List UInt8}:awN s=false↔¬Digs s:=by
 rw[←aeZ];simp
theorem asE(l:Loc)(i:Nat)(hi:i≤100000):Fn 238 [pL l (szA l),.int .i64 (i:Int)] (.int .i64 (abC l i:Int)):=by
 intro H;have hz:szA l= .slice 1 ((cdG l).map (.int .i64)) .full:=rfl;rw[hz];obtain⟨hl,hg⟩:=brB l;have hl2:1≤(cdG l).length∧(cdG l).length≤2:=by rw[hl];split<;>omega
 have hm:=byF l i;refine .of_body func238 rfl ntmps238 results238 rfl ?_;iterate 9 refine AX ?_
 refine .p rfl (zA U32 rfl Z30 (tm rfl)) ?_;iterate 5 refine AX ?_
 refine .cond_false (tm rfl) (by exact aS aA) ?_;iterate 4 refine AX ?_
 refine .p rfl (zA U32 rfl Z30 (tm rfl)) ?_;iterate 2 refine AX ?_
 refine .p rfl (zA U32 rfl Z30 (tm rfl)) ?_;iterate 4 refine AX ?_
 refine .p rfl (alJ U30 Z3 (tm rfl) (tm rfl) (by simp only[asK];split<;>omega) (by simp only[asK];split<;>omega)) ?_;iterate 7 refine AX ?_
 refine⟨?_,rfl⟩;rw[←hm,←hg];rfl
def bvG(l:Loc)(d0:List UInt8)(H:Heap):Nat→Env→Heap→Prop:=λk env H1=>∃(i:Nat)(d s:List UInt8),akQ l d.length i d s=ajB l d0∧i+d.length≤d0.length∧s.length+d.length≤d0.length+10*i∧env=[(1,.str d),(2,.iptr (pL l (szA l)).cells),(5,.str s),(6,.int .i64 (i:Int))]∧H=H1∧k=d.length
theorem azK(l:Loc)(hk:l.ok)(d0:List UInt8)(hd0:d0.length≤10000):Fn 166 [pL l (szA l),.str d0] (.str (ajB l d0)):=by
 intro H;obtain⟨hk1,hk2,hk3,hk4,hk5⟩:=hk;refine .of_body func166 rfl ntmps166 results166 rfl ?_;iterate 18 refine AX ?_
 refine .loopW (bvG l d0 H) (d0.length) ⟨0,d0,[],rfl,by omega,by simp,rfl,rfl,rfl⟩ sX (hRa _) ?_;rintro _ _ _ ⟨i,d,s,hg,hi,hl,rfl,rfl,rfl⟩;have hz:=ahB l i;iterate 7 refine AX ?_
 refine .cl rfl call238 (evs2 rfl rfl) (asE l i aA _) ?_;iterate 3 refine AX ?_
 refine .cx rfl (λhc13=>?_) (λhc13=>?_)
 ·have hgt:abC l i<d.length:=by omega
  iterate 10 refine AX ?_
  refine .cl rfl call238 (evs2 rfl rfl) (asE l i aA _) ?_;iterate 5 refine AX ?_
  refine .draw [(0,true),(1,true),(2,true),(3,true),(4,true),(5,true),(6,true),(7,true),(8,true)] rfl aE ?_;refine .p rfl rfl (zA U32 rfl Z9 (tm rfl)) ?_;iterate 4 refine AX ?_
  refine .p rfl rfl (zY (tm rfl) (tm rfl) (by rw[zQ];simp only[bO];omega)) ?_;refine AX ?_;refine .p rfl rfl (zY (tm rfl) (tm rfl) (by rw[zQ];simp only[aO,bO];omega)) ?_;iterate 17 refine AX ?_
  have hcut:((d.length:Int)-(abC l i:Int)).toNat=d.length-abC l i:=by omega
  have htl:(d.take (d.length-abC l i)).length=d.length-abC l i:=by rw[aV];omega
  rw[hcut];refine Round.mk ⟨i+1,(d.take (d.length-abC l i)),l.grp++d.drop (d.length-abC l i)++s,by rw[←hg];exact(bvF hgt).symm,by omega,by simp only[aO,bO];omega,rfl,rfl,rfl⟩ (zK rfl (zK rfl (zK rfl (zR rfl (by congr 1) yF)))) (hRa _) aA
 have hng:¬abC l i<d.length:=by omega
 iterate 9 refine AX ?_
 refine .p rfl (zY (tm rfl) (tm rfl) (by rw[zQ];omega)) ?_;iterate 5 refine AX ?_
 refine⟨?_,rfl⟩;rw[←hg,cbN hng];rfl
theorem biP(s old:List UInt8):(Lib.replaceAll s old []).length≤s.length:=by
 have:=akU s old [];simpa using this
theorem bhM(l:Loc)(hk:l.ok)(hg:l.grp≠[])(s:List UInt8)(hs:s.length≤9000):Fn 226 [pL l (szA l),.str s] (.tuple [.str ((ahH l s).getD []),.bool (ahH l s).isSome]):=by
 intro H;have hql:=biP s l.grp;have hgp:=bV.2 hg;refine .of_body func226 rfl ntmps226 results226 rfl ?_;iterate 10 refine AX ?_
 refine .p rfl (zA U32 rfl Z9 (tm rfl)) ?_;refine AX ?_;refine .cl rfl call222 (.cons (tm rfl) (.cons (tm rfl) (.cons (zO rfl) .nil))) (replaceA s l.grp [] aA aA aF _) ?_;iterate 4 refine AX ?_
 refine .seqTo 17 (.bool (decide ((Lib.replaceAll s l.grp [])=[])||decide (Lib.trimS (Lib.replaceAll s l.grp []) [48,49,50,51,52,53,54,55,56,57]≠[]))) [1,2,4,5,6] ?_ ?_
 ·iterate 4 refine AX ?_
  refine zD (t:=13) rfl (λhg13=>?_) (λhg13=>?_)
  ·iterate 5 refine AX ?_
   exact⟨rfl,zS rfl (by(simp[*];done)) sX,rfl⟩
  refine AX ?_;refine .gs rfl rfl rfl aB (zB call192 (.cons (tm rfl) (.cons (zO rfl) .nil)) (trimSetA [48,49,50,51,52,53,54,55,56,57] aC aC _ _)) ?_;rintro _ _ ⟨rfl,hH⟩;obtain rfl:=hH.symm;iterate 3 refine AX ?_
  exact⟨rfl,zS rfl (by(simp[*];done)) sX,rfl⟩
 refine .sub [(17,_),(1,_),(2,_),(4,_),(5,_),(6,_)] sX ?_;refine .cx rfl (λhc17=>?_) (λhc17=>?_)
 ·simp only[dB,aT]at hc17;rw[aoK]at hc17;iterate 9 refine AX ?_
  refine⟨?_,rfl⟩;unfold ahH;rw[aN (hc17.imp id azB.2)];rfl
 simp only[dQ,aR,gQ]at hc17;rw[aoK]at hc17;iterate 3 refine AX ?_
 refine .seqTo 27 (.bool (decide ((Lib.replaceAll s l.grp [])≠s)&&decide (ajB l (Lib.replaceAll s l.grp [])≠s))) [4,5,6] ?_ ?_
 ·iterate 5 refine AX ?_
  refine zD (t:=21) rfl (λhg21=>?_) (λhg21=>?_)
  ·iterate 2 refine AX ?_
   refine .gs rfl rfl rfl aB (zB call166 (evs2 rfl rfl) (azK l hk _ aA _)) ?_;rintro _ _ ⟨rfl,hH⟩;obtain rfl:=hH.symm;iterate 4 refine AX ?_
   exact⟨rfl,zS rfl (by(simp[*];done)) sX,rfl⟩
  iterate 7 refine AX ?_
  exact⟨rfl,zS rfl (by(simp[*];done)) sX,rfl⟩
 refine .sub [(27,_),(4,_),(5,_),(6,_)] sX ?_;refine .cx rfl (λhc27=>?_) (λhc27=>?_)
 ·simp only[bN,aT]at hc27;iterate 9 refine AX ?_
  refine⟨?_,rfl⟩;unfold ahH;rw[aM (λq=>q.elim hc17.1 (λq=>azB.1 q hc17.2)),aN hc27];rfl
 simp only[cJ,aR,gQ]at hc27;iterate 11 refine AX ?_
 refine⟨?_,rfl⟩;unfold ahH;rw[aM (λq=>q.elim hc17.1 (λq=>azB.1 q hc17.2)),aM (λq=>hc27.elim (λh=>q.1 h) (λh=>q.2 h))];rfl
end
end Go.Proofs.YteedncdcbgplfaaGreatDoor
