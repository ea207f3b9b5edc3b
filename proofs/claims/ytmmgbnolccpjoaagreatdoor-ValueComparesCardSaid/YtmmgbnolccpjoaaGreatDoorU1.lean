import Derived.Test.YtmmgbnolccpjoaaGreatDoorQ3
import Derived.Test.YtmmgbnolccpjoaaGreatDoorLgk
set_option maxHeartbeats 1000000
namespace Go.Proofs.YtmmgbnolccpjoaaGreatDoor
open Go.Proofs.Tryz
open Go Go.RowKit
variable{l:Loc}{t:List UInt8}
section
set_option maxRecDepth 100000
def coG:AV→Value
 | .int k n=>.int k n
 | .bool b=>.bool b
 |_=>undef
theorem boY:Tryz.zeroCells189=((aaR λ_=>slotF).map coG).toArray:=by kernel_rfl
theorem cbX{g:G}:∀{cs:List AV},(∀c,c∈cs→RelV g c (coG c))→RelCells g cs (cs.map coG).toArray:=fun{cs} h=>by
 refine⟨by simp,λi c v hc hv=>?_⟩;simp only[List.getElem?_toArray,fT,hc,Option.map_some,Option.some.injEq]at hv;subst hv;exact h c (fQ hc)
theorem zrR:∀g,RelCells g (aaR λ_=>slotF) (Value.cells (Value.agg Tryz.zeroCells189)):=λg=>by
 show RelCells g _ Tryz.zeroCells189;rw[boY];refine cbX λc hc=>?_;unfold aaR at hc;obtain⟨i,_,hc⟩:=List.mem_flatMap.1 hc;simp only[slotF,cP,eW,or_false]at hc;rcases hc with rfl|rfl|rfl|rfl|rfl|rfl|rfl<;>first|exact .int _ _|exact .bool _
theorem plR(fs:Array Field)(hfs:prog.underlying 189=some (.struct fs)):∀(i:Nat) f p,fs[i]?=some f→[(0,5607)][i]?=some p→∀w,(sizeOf f.type).run prog w= .ok p.2 w:=by
 have e:=(Option.some.inj (hfs.symm.trans U189));cases e
 intro i f p hf hp w
 match i with
 |0=>cases hf;cases hp;exact Z187 w
 |i+1=>simp at hp
def auY:Nat→List AV:=λ_=>slotF
theorem auX:ROK auY:=λ_=>.inl rfl
theorem bqK(H:Heap):ACall prog 90 [] H (λy H'=>∃b,H.objs b=none∧y= .ptr (some ⟨b,0,none⟩)∧H'=H.set b (.box 189 (aaR auY))):=by
 refine .of_body func90 rfl ntmps90 results90 rfl ?_;refine AX ?_;refine AX ?_;refine .p rfl (zT aoH) ?_;refine .nil ?_;iterate 2 refine AX ?_
 refine AX ?_;refine .p rfl (apI [(0,5607)] U189 zeroValue189 zrR rfl (plR _ U189) .nil rfl) ?_;refine .s rfl (anD (.tmp _ _ rfl) (.inr ⟨_,rfl⟩)) ?_;rintro _ _ ⟨b2,hb2,rfl,hH⟩;obtain rfl:=hH.symm;refine .p rfl (zT (.tmp _ _ rfl)) ?_;refine .nil ?_;iterate 2 refine AX ?_
 
 refine AX ?_;exact⟨b2,hb2,rfl,rfl⟩
theorem zr123:ZR 123 [.str [],.str [],.str [],.str [],.str [],.str [],.str [],.bool false,.bool false,.slice 1 [] .full,.ptr none]:=ZRi zeroValue123
theorem pl123:PL 123 [(0,10),(10,1)]:=PLi U123
def erA(l:Loc)(b:Nat):AV:=.iptr ((pL l (szA l)).cells++[.ptr (some ⟨b,0,none⟩)])
theorem bsN(l:Loc)(H:Heap):ACall prog 37 [pL l (szA l)] H (λy H'=>∃b,H.objs b=none∧y=erA l b∧H'=H.set b (.box 189 (aaR auY))):=by
 refine .of_body func37 rfl ntmps37 results37 rfl ?_;refine AX ?_;refine AX ?_;refine .s rfl (aeC (.tmp _ _ rfl) (.inr ⟨_,rfl⟩)) ?_;rintro _ _ ⟨rfl,hH⟩;obtain rfl:=hH.symm;refine .p rfl (zT aoH) ?_;refine .nil ?_;iterate 2 refine AX ?_
 refine .draw [(0,true),(1,false),(2,true),(3,true),(4,true)] rfl aE ?_;first|(refine .p rfl rfl (apH G29 Z29 (.tmp _ _ rfl) (lB rfl)) ?_)|(refine .f rfl rfl (λ_=>abX G29 Z29 (.tmp _ _ rfl) (by first|assumption|exact(by assumption:Heap.le _ _).objs _ _ aB|exact oS _ _ _|exact(oN _ _ aB).trans (oS _ _ _)|exact(oN _ _ aB).trans ((oN _ _ aB).trans (oS _ _ _))|exact(oN _ _ aB).trans aB) (lB rfl)) ?_)
 refine .s rfl rfl (zB call90 .nil (bqK _)) ?_;rintro _ _ ⟨b,hb,rfl,rfl⟩;refine .p rfl rfl (zX zr123 pl123 (.cons (.tmp _ _ rfl) (.inr ⟨_,rfl⟩) (.cons (.tmp _ _ rfl) (.inl rfl) .nil)) rfl) ?_;refine .f rfl rfl (λ_=>aeC (.tmp _ _ rfl) (.inr ⟨_,rfl⟩)) ?_;refine .p rfl rfl (zT (.tmp _ _ rfl)) ?_;refine .nil ?_;iterate 2 refine AX ?_
 
 refine AX ?_;exact⟨b,hb,rfl,rfl⟩
end
section
open Go Go.RowKit
set_option maxRecDepth 100000
def yE(l:Loc)(s:List UInt8):List UInt8×Bool:=
 if Lib.hasPrefix s [43]=true then(Lib.trimPrefix s [43],false)
 else if Lib.hasPrefix s [45]=true then(Lib.trimPrefix s [45],true)
 else if Lib.hasPrefix s l.minus=true then(Lib.trimPrefix s l.minus,true)
 else(s,false)
theorem anF(l:Loc)(s:List UInt8):(yE l s).1.length≤s.length:=by
 unfold yE
 repeat' split
 all_goals first|exact aeO _ _|exact aV _
def anY(l:Loc):List (List UInt8):=[[45],l.minus]
def bfZ(l:Loc)(s:List UInt8):Option Int:=
 if(yE l s).1≠[]∧ayX (yE l s).1=true∧(yE l s).1.length≤9 then some (if(yE l s).2=true then-(num (yE l s).1:Int)else(num (yE l s).1:Int))else none
theorem byR{s:List UInt8}{b:Bool}(ht:yE l s=(t,b))(h:(aoN t||decide (9<(t.length:Int))||decide (qU afM t.length t≠[]))=true):bfZ l s=none:=by
 unfold bfZ;rw[ht,aL];rintro⟨h1,h2,h3⟩;have hd:=aeX.1 h2;simp only[cN,aO]at h;rcases h with(h|h)|h
 ·unfold aoN at h;rw[bkY h1 hd (by have h4:t.length≤9:=h3;show t.length≤18;omega)]at h;cases h
 ·have h4:t.length≤9:=h3;omega
 exact h ((agH _ _ (aV _)).2 hd)
theorem byQ{s:List UInt8}{b:Bool}(ht:yE l s=(t,b))(h:(aoN t||decide (9<(t.length:Int))||decide (qU afM t.length t≠[]))=false):t≠[]∧Digs t∧t.length≤9∧bfZ l s=some (if b=true then-(num t:Int)else(num t:Int)):=by
 simp only[cC,aM,dY]at h;obtain⟨⟨h1,h2⟩,h3⟩:=h;have hd:=(agH _ _ (aV _)).1 h3;have hne:t≠[]:=by
  rintro rfl;unfold aoN at h1;simp[Lib.atoiAll]at h1
 refine⟨hne,hd,by omega,?_⟩;unfold bfZ;rw[ht,aN ⟨hne,aeX.2 hd,by simp only;omega⟩]
theorem ciZ(hd:Digs t)(hl:t.length≤9):num t<1000000000:=bM (aiN hd) (aZ (aW aC hl) aC)
def cfN(l:Loc)(b:Nat)(s:List UInt8)(H:Heap):Nat→Env→Heap→Prop:=λk env H1=>∃i:Nat,i≤2∧(∀j,j<i→Lib.hasPrefix s ((anY l).getD j [])=false)∧env=[(1,.str s),(24,.slice 1 ((anY l).map .str) .full),(25,.int .i64 2),(26,.int .i64 (i:Int))]∧H=H1∧k=2-i
theorem axH(l:Loc)(b:Nat)(s:List UInt8):Fn 95 [erA l b,.str s] (.tuple [.str (yE l s).1,.bool (yE l s).2]):=by
 intro H;refine .of_body func95 rfl ntmps95 results95 rfl ?_;iterate 10 refine AX ?_
 refine .cl rfl C93 (.cons (tm rfl) (.cons (zO rfl) .nil)) (cutPrefixA _ _ _) ?_;iterate 12 refine AX ?_
 refine .cx rfl (λhc17=>?_) (λhc17=>?_)
 ·iterate 10 refine AX ?_
  refine⟨?_,rfl⟩;unfold yE;rw[aN hc17];rfl
 iterate 7 refine AX ?_
 refine .p rfl (zA U123 rfl Z29 (tm rfl)) (.p rfl (zA U29 rfl Z9 (tm rfl)) ?_);refine AX ?_;refine .e rfl (aiX U51 Z9 zeroValue9 rfl (zO rfl) (.inl rfl) ⟨rfl,rfl⟩ (tm rfl) (.inl rfl) ⟨rfl,rfl⟩) (.p rfl (aiK U51 (tm rfl)) ?_);iterate 4 refine AX ?_
 refine .loopW (cfN l b s H) (2) ⟨0,by omega,λj h=>absurd h (Nat.not_lt_zero _),rfl,rfl,rfl⟩ sX (hRa _) ?_;rintro _ _ _ ⟨i,hi,hp,rfl,rfl,rfl⟩;iterate 6 refine AX ?_
 refine .cx rfl (λhc27=>?_) (λhc27=>?_)
 ·have hi2:i<2:=by omega
  have hil:i<(anY l).length:=hi2;have hgi:(anY l)[i]=(anY l).getD i []:=by rw[aR,bG hil];rfl
  iterate 15 refine AX ?_
  refine .cl rfl C93 (evs2 rfl rfl) (cutPrefixA _ _ _) ?_;iterate 12 refine AX ?_
  refine .cx rfl (λhc36=>?_) (λhc36=>?_)
  ·iterate 14 refine AX ?_
   refine⟨?_,rfl⟩;unfold yE;rcases(by omega:i=0∨i=1)with rfl|rfl
   ·rw[aL (by simp[hc17]),aN (show Lib.hasPrefix s [45]=true from hc36)];rfl
   rw[aL (by simp[hc17]),aL (by have:=hp 0 aC;simpa[anY]using this),aN (show Lib.hasPrefix s l.minus=true from hc36)];rfl
  iterate 8 refine AX ?_
  have hpi:Lib.hasPrefix s ((anY l).getD i [])=false:=by rw[←hgi];exact hc36
  refine Round.mk ⟨i+1,by omega,λj hj=>by rcases cG j i with h|h;exact hp j h;rw[show j=i by omega];exact hpi,rfl,rfl,rfl⟩ sX (hRa _) aA
 iterate 14 refine AX ?_
 refine⟨?_,rfl⟩;unfold yE;have h2:i=2:=by omega
 subst h2;rw[aL (by simp[hc17]),aL (by have:=hp 0 aC;simpa[anY]using this),aL (by have:=hp 1 aC;simpa[anY]using this)];rfl
theorem awP(l:Loc)(b:Nat)(s:List UInt8)(hs:s.length≤2000):Fn 211 [erA l b,.str s] (.tuple [.int .i64 ((bfZ l s).getD 0),.bool (bfZ l s).isSome]):=by
 intro H;have hsl:=anF l s;obtain⟨⟨t,m⟩,ht⟩:∃q,yE l s=q:=⟨_,rfl⟩;rw[ht]at hsl;have hsl2:t.length≤2000:=by have:t.length≤s.length:=hsl;omega
 refine .of_body func211 rfl ntmps211 results211 rfl ?_;iterate 10 refine AX ?_
 refine .cl rfl call95 (evs2 rfl rfl) ((by have h:=axH l b s;rw[ht]at h;exact h _)) ?_;iterate 10 refine AX ?_
 refine .s rfl (zB call257 (evs1 rfl) (atoiAny t aA _)) ?_;rintro _ _ ⟨⟨v,ev,rfl,hev,hv⟩,hH⟩;obtain rfl:=hH.symm;iterate 8 refine AX ?_
 refine .seqTo 31 (.bool (aoN t||decide (9<(t.length:Int))||decide (qU afM t.length t≠[]))) [4,5,6,7] ?_ ?_
 ·iterate 2 refine AX ?_
  refine .p rfl (bqS underlying233 (tm rfl) hev) ?_;refine AX ?_;refine zC (t:=22) rfl (λhg22=>?_) (λhg22=>?_)
  ·iterate 10 refine AX ?_
   exact⟨rfl,zL rfl (by(rw[show aoN t=_ from hg22];rfl)) sX,rfl⟩
  iterate 5 refine AX ?_
  refine zC (t:=27) rfl (λhg27=>?_) (λhg27=>?_)
  ·iterate 5 refine AX ?_
   exact⟨rfl,zL rfl (by(rw[show aoN t=_ from hg22,show decide (9<(t.length:Int))=_ from hg27];rfl)) sX,rfl⟩
  refine AX ?_;refine .gs rfl rfl rfl aB (zB C96 (.cons (tm rfl) (.cons (.func _) .nil)) (trimDigitsA t _)) ?_;rintro _ _ ⟨rfl,hH⟩;obtain rfl:=hH.symm;iterate 3 refine AX ?_
  exact⟨rfl,zL rfl (by(simp[*];done)) sX,rfl⟩
 refine .sub [(31,_),(4,_),(5,_),(6,_),(7,_)] sX ?_;refine .cx rfl (λhc31=>?_) (λhc31=>?_)
 ·have hex:=byR ht hc31;iterate 9 refine AX ?_
  refine⟨?_,rfl⟩;rw[hex];rfl
 obtain⟨hne,hdt,hl9,hex⟩:=byQ ht hc31;have hv2:v=(num t:Int):=by
  simp only[cC]at hc31;have h1:=hv hc31.1.1;rw[bkY hne hdt aA]at h1;injection h1 with h1;exact h1.symm
 subst hv2;have hn9:=ciZ hdt hl9;iterate 2 refine AX ?_
 refine .seqToL [(7,.int .i64 (if m=true then-(num t:Int)else(num t:Int)))] [4,5] ?_ ?_
 ·iterate 5 refine AX ?_
  refine .cx rfl (λhc32=>?_) (λhc32=>?_)
  ·iterate 5 refine AX ?_
   exact⟨rfl,(zM rfl (by(rw[aN (show m=true from hc32)];done)) sX),rfl⟩
  refine AX ?_;exact⟨rfl,(zM rfl (by(rw[aL (by rw[show m=false from hc32];decide)];done)) sX),rfl⟩
 refine .sub [(7,_),(4,_),(5,_)] sX ?_;iterate 9 refine AX ?_
 refine⟨?_,rfl⟩;rw[hex];rfl
end
section
open Go Go.RowKit
set_option maxRecDepth 100000
def abS(l:Loc)(i:Nat):Nat:=if i=0 then 3 else if l.second=2 then 2 else 3
def szI(l:Loc):List Int:=if l.second=2 then [3,2]else [3]
theorem buI(l:Loc):(szI l).length=(if l.second=2 then 2 else 1)∧∀(j:Nat)(h:j<(szI l).length),(szI l)[j]=if j=0 then 3 else 2:=by
 unfold szI;split
 ·refine⟨rfl,λj h=>?_⟩
  match j,h with
  |0,_=>rfl
  |1,_=>rfl
 refine⟨rfl,λj h=>?_⟩
 match j,h with
 |0,_=>rfl
theorem akC(l:Loc)(i:Nat):2≤abS l i∧abS l i≤3:=by
 unfold abS;repeat' split
 all_goals omega
theorem cbC(l:Loc)(i:Nat):bfM 1 (if(btO (i:Int) (((szI l).length:Int)-1)).toNat=0 then 3 else 2)=(abS l i:Int):=by
 rw[(buI l).1];unfold abS;simp only[bfM,btO]
 repeat' split
 all_goals (first|omega|(exfalso;simp_all;done)|simp_all)
def bbH(l:Loc):Nat→Nat→List UInt8→List UInt8→List UInt8
 |0,_,d,s=>d++s
 |f+1,i,d,s=>if abS l i<d.length then bbH l f (i+1) (d.take (d.length-abS l i)) (l.grp++d.drop (d.length-abS l i)++s)else d++s
theorem bfO(l:Loc):∀(f g i:Nat)(d s:List UInt8),d.length≤f→d.length≤g→bbH l f i d s=bbH l g i d s
 |0,0,_,_,_,_,_=>rfl
 |0,g+1,i,d,s,hf,_=>by
  unfold bbH;rw[aI]
 |f+1,0,i,d,s,_,hg=>by
  unfold bbH;rw[aI]
 |f+1,g+1,i,d,s,hf,hg=>by
  have:=akC l i;unfold bbH;split
  ·exact bfO l f g _ _ _ (by rw[aS];omega) (by rw[aS];omega)
  rfl
def arB(l:Loc)(d:List UInt8):List UInt8:=bbH l d.length 0 d []
theorem byG{i:Nat}{d s:List UInt8}(h:abS l i<d.length):bbH l d.length i d s=bbH l (d.take (d.length-abS l i)).length (i+1) (d.take (d.length-abS l i)) (l.grp++d.drop (d.length-abS l i)++s):=by
 have h2:=akC l i;obtain⟨n,hn⟩:∃n,d.length=n+1:=⟨d.length-1,by omega⟩;have e:bbH l d.length i d s=bbH l (n+1) i d s:=by rw[hn]
 rw[e,bbH,aN h];refine bfO l _ _ _ _ _ ?_ ?_<;>simp only[aS]<;>omega
theorem cdN{i:Nat}{d s:List UInt8}(h:¬abS l i<d.length):bbH l d.length i d s=d++s:=by
 cases hd:d.length with
 |zero=>rfl
 |succ n=>rw[bbH,aL h]
theorem bnE(x:UInt8):([48,49,50,51,52,53,54,55,56,57]:List UInt8).contains x=true↔isD x:=by
 have key:∀n:Fin 256,(([48,49,50,51,52,53,54,55,56,57]:List UInt8).contains (UInt8.ofNat n.1))=decide (48≤n.1∧n.1≤57):=by decide+kernel
 have hx:=key ⟨x.toNat,x.toNat_lt⟩;rw[show UInt8.ofNat x.toNat=x by simp]at hx;rw[hx,aO];rfl
theorem avF{p:UInt8→Bool}:∀{l:List UInt8},l.dropWhile p=[]↔∀x,x∈l→p x=true
 | []=>by simp
 |x::l=>by
  rw[eF];split
  ·rename_i h
   rw[avF];constructor
   ·intro q y hy;rcases cP.1 hy with rfl|hy
    ·exact h
    exact q y hy
   intro q y hy;exact q y (by simp[hy])
  rename_i h
  constructor
  ·intro q;simp at q
  intro q;exact absurd (q x aF) h
theorem aqH(s:List UInt8):Lib.trimS s [48,49,50,51,52,53,54,55,56,57]=[]↔Digs s:=by
 show((s.reverse.dropWhile (([48,49,50,51,52,53,54,55,56,57]:List UInt8).contains ·)).reverse.dropWhile (([48,49,50,51,52,53,54,55,56,57]:List UInt8).contains ·))=[]↔_;rw[avF];constructor
 ·intro h;have h1:s.reverse.dropWhile (([48,49,50,51,52,53,54,55,56,57]:List UInt8).contains ·)=[]:=by
   cases hc:s.reverse.dropWhile (([48,49,50,51,52,53,54,55,56,57]:List UInt8).contains ·)with
   |nil=>rfl
   |cons x r=>
    have hx:=h x (by rw[hc];simp);have hn:=List.head?_dropWhile_not (p:=λx=>([48,49,50,51,52,53,54,55,56,57]:List UInt8).contains x) (l:=s.reverse);rw[hc]at hn;simp only[List.head?_cons]at hn;rw[hx]at hn;cases hn
  intro x hx;exact(bnE x).1 (avF.1 h1 x (by simpa using hx))
 intro h x hx;refine(bnE x).2 (h x ?_);have:=(eY (l:=s.reverse) (([48,49,50,51,52,53,54,55,56,57]:List UInt8).contains ·)).subset (by simpa using hx);simpa using this
def adW(l:Loc)(s:List UInt8):Option (List UInt8):=
 if Lib.replaceAll s l.grp []=[]∨ayX (Lib.replaceAll s l.grp [])=false then none
 else if Lib.replaceAll s l.grp []≠s∧arB l (Lib.replaceAll s l.grp [])≠s then none
 else some (Lib.replaceAll s l.grp [])
theorem asF{s:List UInt8}:ayX s=false↔¬Digs s:=by
 rw[←aeX];simp
theorem auM(l:Loc)(i:Nat)(hi:i≤100000):Fn 233 [pL l (szA l),.int .i64 (i:Int)] (.int .i64 (abS l i:Int)):=by
 intro H;have hz:szA l= .slice 1 ((szI l).map (.int .i64)) .full:=rfl;rw[hz];obtain⟨hl,hg⟩:=buI l;have hl2:1≤(szI l).length∧(szI l).length≤2:=by rw[hl];split<;>omega
 have hm:=cbC l i;refine .of_body func233 rfl ntmps233 results233 rfl ?_;iterate 9 refine AX ?_
 refine .p rfl (zA U29 rfl Z27 (tm rfl)) ?_;iterate 5 refine AX ?_
 refine .cond_false (tm rfl) (by exact bB aA) ?_;iterate 4 refine AX ?_
 refine .p rfl (zA U29 rfl Z27 (tm rfl)) ?_;iterate 2 refine AX ?_
 refine .p rfl (zA U29 rfl Z27 (tm rfl)) ?_;iterate 4 refine AX ?_
 refine .p rfl (auA U27 Z3 (tm rfl) (tm rfl) (by simp only[btO];split<;>omega) (by simp only[btO];split<;>omega)) ?_;iterate 7 refine AX ?_
 refine⟨?_,rfl⟩;rw[←hm,←hg];rfl
def byH(l:Loc)(d0:List UInt8)(H:Heap):Nat→Env→Heap→Prop:=λk env H1=>∃(i:Nat)(d s:List UInt8),bbH l d.length i d s=arB l d0∧i+d.length≤d0.length∧s.length+d.length≤d0.length+10*i∧env=[(1,.str d),(2,.iptr (pL l (szA l)).cells),(5,.str s),(6,.int .i64 (i:Int))]∧H=H1∧k=d.length
theorem bcE(l:Loc)(hk:l.ok)(d0:List UInt8)(hd0:d0.length≤10000):Fn 176 [pL l (szA l),.str d0] (.str (arB l d0)):=by
 intro H;obtain⟨hk1,hk2,hk3,hk4,hk5⟩:=hk;refine .of_body func176 rfl ntmps176 results176 rfl ?_;iterate 18 refine AX ?_
 refine .loopW (byH l d0 H) (d0.length) ⟨0,d0,[],rfl,by omega,by simp,rfl,rfl,rfl⟩ sX (hRa _) ?_;rintro _ _ _ ⟨i,d,s,hg,hi,hl,rfl,rfl,rfl⟩;have hz:=akC l i;iterate 7 refine AX ?_
 refine .cl rfl call233 (evs2 rfl rfl) (auM l i aA _) ?_;iterate 3 refine AX ?_
 refine .cx rfl (λhc13=>?_) (λhc13=>?_)
 ·have hgt:abS l i<d.length:=by omega
  iterate 10 refine AX ?_
  refine .cl rfl call233 (evs2 rfl rfl) (auM l i aA _) ?_;iterate 5 refine AX ?_
  refine .draw [(0,true),(1,true),(2,true),(3,true),(4,true),(5,true),(6,true),(7,true),(8,true)] rfl aE ?_;refine .p rfl rfl (zA U29 rfl Z9 (tm rfl)) ?_;iterate 4 refine AX ?_
  refine .p rfl rfl (zS (tm rfl) (tm rfl) (by rw[zJ];simp only[bD];omega)) ?_;refine AX ?_;refine .p rfl rfl (zS (tm rfl) (tm rfl) (by rw[zJ];simp only[aP,bD];omega)) ?_;iterate 17 refine AX ?_
  have hcut:((d.length:Int)-(abS l i:Int)).toNat=d.length-abS l i:=by omega
  have htl:(d.take (d.length-abS l i)).length=d.length-abS l i:=by rw[aS];omega
  rw[hcut];refine Round.mk ⟨i+1,(d.take (d.length-abS l i)),l.grp++d.drop (d.length-abS l i)++s,by rw[←hg];exact(byG hgt).symm,by omega,by simp only[aP,bD];omega,rfl,rfl,rfl⟩ (zI rfl (zI rfl (zI rfl (zM rfl (by congr 1) yJ)))) (hRa _) aA
 have hng:¬abS l i<d.length:=by omega
 iterate 9 refine AX ?_
 refine .p rfl (zS (tm rfl) (tm rfl) (by rw[zJ];omega)) ?_;iterate 5 refine AX ?_
 refine⟨?_,rfl⟩;rw[←hg,cdN hng];rfl
theorem bmK(s old:List UInt8):(Lib.replaceAll s old []).length≤s.length:=by
 have:=alT s old [];simpa using this
theorem blC(l:Loc)(hk:l.ok)(hg:l.grp≠[])(s:List UInt8)(hs:s.length≤9000):Fn 214 [pL l (szA l),.str s] (.tuple [.str ((adW l s).getD []),.bool (adW l s).isSome]):=by
 intro H;have hql:=bmK s l.grp;have hgp:=bS.2 hg;refine .of_body func214 rfl ntmps214 results214 rfl ?_;iterate 10 refine AX ?_
 refine .p rfl (zA U29 rfl Z9 (tm rfl)) ?_;refine AX ?_;refine .cl rfl call210 (.cons (tm rfl) (.cons (tm rfl) (.cons (zO rfl) .nil))) (replaceA s l.grp [] aA aA aF _) ?_;iterate 4 refine AX ?_
 refine .seqTo 17 (.bool (decide ((Lib.replaceAll s l.grp [])=[])||decide (Lib.trimS (Lib.replaceAll s l.grp []) [48,49,50,51,52,53,54,55,56,57]≠[]))) [1,2,4,5,6] ?_ ?_
 ·iterate 4 refine AX ?_
  refine zC (t:=13) rfl (λhg13=>?_) (λhg13=>?_)
  ·iterate 5 refine AX ?_
   exact⟨rfl,zL rfl (by(simp[*];done)) sX,rfl⟩
  refine AX ?_;refine .gs rfl rfl rfl aB (zB call259 (.cons (tm rfl) (.cons (zO rfl) .nil)) (trimSetA [48,49,50,51,52,53,54,55,56,57] aC aC _ _)) ?_;rintro _ _ ⟨rfl,hH⟩;obtain rfl:=hH.symm;iterate 3 refine AX ?_
  exact⟨rfl,zL rfl (by(simp[*];done)) sX,rfl⟩
 refine .sub [(17,_),(1,_),(2,_),(4,_),(5,_),(6,_)] sX ?_;refine .cx rfl (λhc17=>?_) (λhc17=>?_)
 ·simp only[cN,aO]at hc17;rw[aqH]at hc17;iterate 9 refine AX ?_
  refine⟨?_,rfl⟩;unfold adW;rw[aN (hc17.imp id asF.2)];rfl
 simp only[cC,aM,dY]at hc17;rw[aqH]at hc17;iterate 3 refine AX ?_
 refine .seqTo 27 (.bool (decide ((Lib.replaceAll s l.grp [])≠s)&&decide (arB l (Lib.replaceAll s l.grp [])≠s))) [4,5,6] ?_ ?_
 ·iterate 5 refine AX ?_
  refine zC (t:=21) rfl (λhg21=>?_) (λhg21=>?_)
  ·iterate 2 refine AX ?_
   refine .gs rfl rfl rfl aB (zB call176 (evs2 rfl rfl) (bcE l hk _ aA _)) ?_;rintro _ _ ⟨rfl,hH⟩;obtain rfl:=hH.symm;iterate 4 refine AX ?_
   exact⟨rfl,zL rfl (by(simp[*];done)) sX,rfl⟩
  iterate 7 refine AX ?_
  exact⟨rfl,zL rfl (by(simp[*];done)) sX,rfl⟩
 refine .sub [(27,_),(4,_),(5,_),(6,_)] sX ?_;refine .cx rfl (λhc27=>?_) (λhc27=>?_)
 ·simp only[bL,aO]at hc27;iterate 9 refine AX ?_
  refine⟨?_,rfl⟩;unfold adW;rw[aL (λq=>q.elim hc17.1 (λq=>asF.1 q hc17.2)),aN hc27];rfl
 simp only[bX,aM,dY]at hc27;iterate 11 refine AX ?_
 refine⟨?_,rfl⟩;unfold adW;rw[aL (λq=>q.elim hc17.1 (λq=>asF.1 q hc17.2)),aL (λq=>hc27.elim (λh=>q.1 h) (λh=>q.2 h))];rfl
end
end Go.Proofs.YtmmgbnolccpjoaaGreatDoor
