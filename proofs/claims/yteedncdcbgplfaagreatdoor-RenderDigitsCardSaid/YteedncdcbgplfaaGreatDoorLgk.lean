import Derived.Test.YteedncdcbgplfaaGreatDoorJ3
import Derived.Test.YteedncdcbgplfaaGreatDoorX2
set_option maxHeartbeats 1000000
namespace Go.Proofs.YteedncdcbgplfaaGreatDoor
open Go.Proofs.Tryz
open Go Go.RowKit
open Go Go.RowKit
variable{i:Nat}
theorem cjN{p:List SecN}(h:i<p.length):p[i].items.length≤bdK p:=by
 have h1:=baB h;have h2:=brC p (i+1);omega
open Go Go.RowKit
set_option maxRecDepth 100000
theorem zr32:ZR 32 [.str [],.str [],.str [],.str [],.str [],.str [],.str [],.bool false,.bool false,.slice 1 [] .full]:=ZRi zeroValue32
theorem pl32:PL 32 [(0,1),(1,1),(2,1),(3,1),(4,1),(5,1),(6,1),(7,1),(8,1),(9,1)]:=PLi U32
theorem zr34:ZR 34 [.str [],.str [],.str [],.str [],.str [],.str [],.str [],.bool false,.bool false,.int .i64 0]:=ZRi zeroValue34
theorem pl34:PL 34 [(0,1),(1,1),(2,1),(3,1),(4,1),(5,1),(6,1),(7,1),(8,1),(9,1)]:=PLi U34
theorem bjZ{W:World}(h:Inv W){n:Nat}{d:DataW Unit}{xs:List Value}(hn:(n,d)∈asI)(hx:agB 4 d=some xs){v:Value}(hi:xs[i]?=some v):W.cell? ⟨n,i,none⟩=some v:=by
 obtain⟨T,fz,hh⟩:=h.rows n d hn xs hx;unfold World.cell?;rw[hh];simpa using hi
def clW(l:List UInt8):Value:=.string ⟨l.toArray⟩
def namesL:List (List UInt8):=[[99,104],[100,101],[101,110],[102,114],[104,105],[115,118]]
def signsL:List (List UInt8):=[[46],[226,128,153],[59],[45],[67,72,70],[44],[46],[59],[45],[226,130,172],[46],[44],[44],[45],[36],[44],[226,128,175],[59],[45],[226,130,172],[46],[44],[44],[45],[226,130,185],[44],[194,160],[59],[226,136,146],[107,114]]
theorem boM:agB 4 Rows.laid_tabard_locale_names=some (namesL.map clW):=by kernel_rfl
theorem boL:agB 4 Rows.laid_tabard_locale_signs=some (signsL.map clW):=by kernel_rfl
def apF(i:Nat):List UInt8:=namesL.getD i []
def aoN(i:Nat):List UInt8:=signsL.getD i []
theorem buF{l:List (List UInt8)}(h:i<l.length):(l.map clW)[i]?=some (clW (l.getD i [])):=by
 rw[cT,aP,aX h];rfl
theorem beF:∀i,(apF i).length≤maxLen:=λi=>by
 have:∀l∈namesL,l.length≤10:=by decide
 unfold apF;rw[aP,zQ];cases h:namesL[i]? with
 |none=>simp
 |some l=>have:=this l (fP h);simp only[eW];omega
theorem beD:∀i,(aoN i).length≤maxLen:=λi=>by
 have:∀l∈signsL,l.length≤10:=by decide
 unfold aoN;rw[aP,zQ];cases h:signsL[i]? with
 |none=>simp
 |some l=>have:=this l (fP h);simp only[eW];omega
theorem cbK(hi:i<6):∀W,Inv W→∃v,W.cell? ⟨0,0+((i:Nat):Int).toNat*1,none⟩=some v∧∀g,RelV g (.str (apF i)) v:=by
 intro W h;rw[show 0+((i:Nat):Int).toNat*1=i by omega];exact⟨_,bjZ h (by simp[asI]) boM (buF (by simpa[namesL]using hi)),λg=>.str _ (beF i)⟩
theorem amY(hi:i<6)(j:Nat)(hj:j<5)(o:Nat)(ho:o=i*5+j):∀W,Inv W→∃v,W.cell? ⟨1,o,none⟩=some v∧∀g,RelV g (.str (aoN (i*5+j))) v:=by
 intro W h;subst ho;exact⟨_,bjZ h (by simp[asI]) boL (buF (by simp[signsL];omega)),λg=>.str _ (beD _)⟩
structure FLoc where
 name:List UInt8
 dec:List UInt8
 grp:List UInt8
 lst:List UInt8
 minus:List UInt8
 pct:List UInt8
 cur:List UInt8
 first:Bool
 space:Bool
 sizes:List Int
def FLoc.cs(l:FLoc):List AV:=[.str l.name,.str l.dec,.str l.grp,.str l.lst,.str l.minus,.str l.pct,.str l.cur,.bool l.first,.bool l.space,.slice 1 (l.sizes.map (.int .i64)) .full]
def FLoc.none:FLoc:=⟨[],[],[],[],[],[],[],false,false,[]⟩
def buO(i:Nat)(s:List UInt8):FLoc:=
 ⟨s,aoN (i*5),aoN (i*5+1),aoN (i*5+2),aoN (i*5+3),[37],aoN (i*5+4),decide (s=[99,104])||(decide (s=[104,105])||decide (s=[101,110])),!(decide (s=[104,105])||decide (s=[101,110])),if s=[104,105]then [3,2]else [3]⟩
def auC(s:List UInt8):Option Nat:=(List.range 6).find? λi=>decide (apF i=s)
theorem akF{s:List UInt8}(hi:i<6)(h:apF i=s)(hl:∀j,j<i→apF j≠s):auC s=some i:=by
 unfold auC;rw[List.find?_eq_some_iff_append];refine⟨by simp[h],List.range i,(List.range' (i+1) (5-i)),?_,λj hj=>by simpa using hl j (by simpa using hj)⟩;have:i=0∨i=1∨i=2∨i=3∨i=4∨i=5:=by omega
 rcases this with rfl|rfl|rfl|rfl|rfl|rfl<;>rfl
theorem boO{s:List UInt8}(hl:∀j,j<6→apF j≠s):auC s=none:=by
 unfold auC;rw[List.find?_eq_none];intro j hj;simpa using hl j (by simpa using hj)
def aiH(s:List UInt8):FLoc×Int:=match auC s with|some i=>(buO i s,0)|none=>(FLoc.none,8)
def locs:List Loc:=[⟨[99,104],[46],[226,128,153],[59],[45],[37],[67,72,70],true,true,3⟩,⟨[100,101],[44],[46],[59],[45],[37],[226,130,172],false,true,3⟩,⟨[101,110],[46],[44],[44],[45],[37],[36],true,false,3⟩,
  ⟨[102,114],[44],[226,128,175],[59],[45],[37],[226,130,172],false,true,3⟩,⟨[104,105],[46],[44],[44],[45],[37],[226,130,185],true,false,2⟩,⟨[115,118],[44],[194,160],[59],[226,136,146],[37],[107,114],false,true,3⟩]
def szA(l:Loc):AV:=.slice 1 ((if l.second=2 then [3,2]else [3]:List Int).map (.int .i64)) .full
theorem asF:∀l∈locs,l.ok:=by
 intro l hl;simp only[locs,dG,gH,or_false]at hl;rcases hl with rfl|rfl|rfl|rfl|rfl|rfl<;>(unfold Loc.ok;simp)
theorem bvS:∀l∈locs,(.agg (aiH l.name).1.cs:AV)=pL l (szA l)∧(aiH l.name).2=0:=by
 intro l hl;simp only[locs,dG,gH,or_false]at hl;rcases hl with rfl|rfl|rfl|rfl|rfl|rfl<;>exact⟨rfl,rfl⟩
def ceP(s:List UInt8)(b2:Nat)(H:Heap):Nat→Env→Heap→Prop:=λk env H1=>∃i:Nat,i≤6∧(∀j,j<i→apF j≠s)∧env=[(0,.str s),(2,.ptr (some ⟨b2,0,none⟩)),(6,.int .i64 i)]∧H1=H.set b2 (.box 32 [.str [],.str [],.str [],.str [],.str [],.str [],.str [],.bool false,.bool false,.slice 1 [] .full])∧k=6-i
theorem bpV(s:List UInt8)(H:Heap):ACall prog 20 [.str s] H (λy H'=>y= .tuple [.agg (aiH s).1.cs,.int .i64 (aiH s).2]∧H'=H):=by
 refine ACall.of_body func20 rfl ntmps20 results20 rfl ?_;iterate 2 refine AX ?_
 refine .al zr32 (λb2 hb2=>?_);iterate 10 refine AX ?_
 refine AWP.loopW (ceP s b2 H) (6) ⟨0,Nat.zero_le _,λj h=>absurd h (Nat.not_lt_zero _),rfl,rfl,rfl⟩ sX (hRa _) ?_;rintro _ _ _ ⟨i,hi,hl,rfl,rfl,rfl⟩;iterate 6 refine AX ?_
 refine AWP.cond (tm rfl) (λhc7=>?_) (λhc7=>?_)
 ·try simp only[aT]at hc7
  have hi6:i<6:=by omega
  iterate 14 refine AX ?_
  refine .p rfl (qS underlying105 Z9 (.global _) (tm rfl) aA aA) (.e rfl (afC G9 (tm rfl) (cbK hi6)) ?_);iterate 4 refine AX ?_
  refine AWP.cond (tm rfl) (λhc13=>?_) (λhc13=>?_)
  ·try simp only[aR,fU]at hc13
   iterate 3 refine AX ?_
   refine Next.go ?_;refine .region (.p rfl (yZ (tm rfl) zJ aA) (.mv rfl rfl (.nil ?_)));refine Next.go ?_;refine Round.mk (J:=ceP s b2 H) ⟨i+1,by omega,λj hj=>by rcases bX j i with h|h;exact hl j h;rw[show j=i by omega];exact hc13,rfl,rfl,rfl⟩ sX (hRa _) aA
  try simp only[aT,Bool.not_eq_false']at hc13
  refine .skip ?_;refine Next.go ?_;refine .seq ?_;refine AWP.draw [(0,true),(1,true),(2,true),(3,true),(4,true),(5,true),(6,true),(7,true),(8,true),(9,true),(10,true),(11,true),(12,true),(13,true),(14,true),(15,true),(16,true),(17,true),(18,true),(19,true),(20,true),(21,true),(22,true),(23,false),(24,false)] rfl aE ?_;refine .p rfl rfl (zG (tm rfl)) (.p rfl rfl (zG (tm rfl)) (.p rfl rfl (qS U107 Z106 (.global _) (tm rfl) aA aA) (.p rfl rfl (qS U106 Z9 (tm rfl) zJ aA aA) ?_)));refine APlan.f rfl rfl (λ_=>afC G9 (tm rfl) (amY hi6 0 aC _ aA)) ?_;refine .p rfl rfl (zG (tm rfl)) (.p rfl rfl (qS U107 Z106 (.global _) (tm rfl) aA aA) (.p rfl rfl (qS U106 Z9 (tm rfl) zJ aA aA) ?_));refine APlan.f rfl rfl (λ_=>afC G9 (tm rfl) (amY hi6 1 aC _ aA)) ?_;refine .p rfl rfl (zG (tm rfl)) (.p rfl rfl (qS U107 Z106 (.global _) (tm rfl) aA aA) (.p rfl rfl (qS U106 Z9 (tm rfl) zJ aA aA) ?_));refine APlan.f rfl rfl (λ_=>afC G9 (tm rfl) (amY hi6 2 aC _ aA)) ?_;refine .p rfl rfl (zG (tm rfl)) (.p rfl rfl (qS U107 Z106 (.global _) (tm rfl) aA aA) (.p rfl rfl (qS U106 Z9 (tm rfl) zJ aA aA) ?_));refine APlan.f rfl rfl (λ_=>afC G9 (tm rfl) (amY hi6 3 aC _ aA)) ?_;refine .p rfl rfl (zG (tm rfl)) (.p rfl rfl (qS U107 Z106 (.global _) (tm rfl) aA aA) (.p rfl rfl (qS U106 Z9 (tm rfl) zJ aA aA) ?_));refine APlan.f rfl rfl (λ_=>afC G9 (tm rfl) (amY hi6 4 aC _ aA)) ?_;refine APlan.f rfl rfl (λ_=>yJ U30 Z3 V3 rfl zJ (.inl rfl) ⟨rfl,rfl⟩) ?_;refine .p rfl rfl (aiC zr32 pl32 (.cons (tm rfl) (.inl rfl) (.cons (tm rfl) (.inl rfl) (.cons (tm rfl) (.inl rfl) (.cons (tm rfl) (.inl rfl) (.cons (tm rfl) (.inl rfl) (.cons (zO rfl) (.inl rfl) (.cons (tm rfl) (.inl rfl) (.cons zT (.inl rfl) (.cons zT (.inl rfl) (.cons (tm rfl) (.inl rfl) .nil)))))))))) rfl rfl) ?_;refine .s rfl rfl (adL zr32) ?_;rintro _ _ ⟨b5,hb5,rfl,hH⟩;obtain rfl:=hH.symm;have hn2_5:=Heap.ne_of (oS _ _ _) hb5;refine .s0 rfl (zL Z32 (tm rfl) (tm rfl) rfl rfl (.inr ⟨_,rfl⟩) (oS _ _ _) (lB rfl)) ?_;rintro _ _ ⟨rfl,hH⟩;obtain rfl:=hH.symm;try first|rw[sS]|rw[sU aB]
  iterate 23 refine AX ?_
  refine AWP.cond (tm rfl) (λhc38=>?_) (λhc38=>?_)
  ·try simp only[aT]at hc38
   iterate 7 refine AX ?_
   refine .p rfl (zC U32 rfl Z4 (tm rfl)) (.e0 (zL Z4 (tm rfl) zT rfl rfl (.inl rfl) (oS _ _ _) (lB rfl)) ?_);try first|rw[sS]|rw[sU aB]
   iterate 11 refine AX ?_
   refine .e rfl (qA G32 Z32 (tm rfl) (oS _ _ _) (lB rfl)) (.e0 (zL Z32 (tm rfl) (tm rfl) rfl rfl (.inr ⟨_,rfl⟩) ((oN _ _ aB).trans (oS _ _ _)) (lB rfl)) ?_);try first|rw[sS]|rw[sU aB]
   iterate 3 refine AX ?_
   refine AWP.dropb (fS hb5 _) ?_;refine AWP.frz (t:=2) rfl (hb2) ?_;iterate 6 refine AX ?_
   refine Ret.go (.cons (.cellI _ _ _ _ rfl G32 Z32 rfl) (.cons (.tmp _ _ rfl) .nil)) _ (hRa _) ?_;refine⟨?_,rfl⟩;have hf:auC s=some i:=akF hi6 hc13 hl;simp only[yT,aiH,hf]
   simp_all[buO,FLoc.cs]
   all_goals rfl
  try simp only[aR]at hc38
  iterate 9 refine AX ?_
  refine AWP.cond (tm rfl) (λhc40=>?_) (λhc40=>?_)
  ·try simp only[aT]at hc40
   iterate 8 refine AX ?_
   refine .e rfl (aeT U30 Z3 V3 rfl zJ (.inl rfl) ⟨rfl,rfl⟩ zJ (.inl rfl) ⟨rfl,rfl⟩) (.p rfl (zC U32 rfl Z30 (tm rfl)) (.e0 (zL Z30 (tm rfl) (tm rfl) rfl rfl (.inl rfl) (oS _ _ _) (lB rfl)) ?_));try first|rw[sS]|rw[sU aB]
   iterate 5 refine AX ?_
   refine .p rfl (zC U32 rfl Z4 (tm rfl)) (.e0 (zL Z4 (tm rfl) zT rfl rfl (.inl rfl) (oS _ _ _) (lB rfl)) ?_);try first|rw[sS]|rw[sU aB]
   refine .p rfl (zC U32 rfl Z4 (tm rfl)) (.e0 (zL Z4 (tm rfl) zT rfl rfl (.inl rfl) (oS _ _ _) (lB rfl)) ?_);try first|rw[sS]|rw[sU aB]
   iterate 7 refine AX ?_
   refine .e rfl (qA G32 Z32 (tm rfl) (oS _ _ _) (lB rfl)) (.e0 (zL Z32 (tm rfl) (tm rfl) rfl rfl (.inr ⟨_,rfl⟩) ((oN _ _ aB).trans (oS _ _ _)) (lB rfl)) ?_);try first|rw[sS]|rw[sU aB]
   iterate 3 refine AX ?_
   refine AWP.dropb (fS hb5 _) ?_;refine AWP.frz (t:=2) rfl (hb2) ?_;iterate 6 refine AX ?_
   refine Ret.go (.cons (.cellI _ _ _ _ rfl G32 Z32 rfl) (.cons (.tmp _ _ rfl) .nil)) _ (hRa _) ?_;refine⟨?_,rfl⟩;have hf:auC s=some i:=akF hi6 hc13 hl;simp only[yT,aiH,hf]
   simp_all[buO,FLoc.cs]
   all_goals rfl
  try simp only[aR]at hc40
  iterate 8 refine AX ?_
  refine AWP.cond (tm rfl) (λhc42=>?_) (λhc42=>?_)
  ·try simp only[aT]at hc42
   iterate 10 refine AX ?_
   refine .p rfl (zC U32 rfl Z4 (tm rfl)) (.e0 (zL Z4 (tm rfl) zT rfl rfl (.inl rfl) (oS _ _ _) (lB rfl)) ?_);try first|rw[sS]|rw[sU aB]
   refine .p rfl (zC U32 rfl Z4 (tm rfl)) (.e0 (zL Z4 (tm rfl) zT rfl rfl (.inl rfl) (oS _ _ _) (lB rfl)) ?_);try first|rw[sS]|rw[sU aB]
   iterate 7 refine AX ?_
   refine .e rfl (qA G32 Z32 (tm rfl) (oS _ _ _) (lB rfl)) (.e0 (zL Z32 (tm rfl) (tm rfl) rfl rfl (.inr ⟨_,rfl⟩) ((oN _ _ aB).trans (oS _ _ _)) (lB rfl)) ?_);try first|rw[sS]|rw[sU aB]
   iterate 3 refine AX ?_
   refine AWP.dropb (fS hb5 _) ?_;refine AWP.frz (t:=2) rfl (hb2) ?_;iterate 6 refine AX ?_
   refine Ret.go (.cons (.cellI _ _ _ _ rfl G32 Z32 rfl) (.cons (.tmp _ _ rfl) .nil)) _ (hRa _) ?_;refine⟨?_,rfl⟩;have hf:auC s=some i:=akF hi6 hc13 hl;simp only[yT,aiH,hf]
   simp_all[buO,FLoc.cs]
   all_goals rfl
  try simp only[aR]at hc42
  iterate 13 refine AX ?_
  refine .e rfl (qA G32 Z32 (tm rfl) (oS _ _ _) (lB rfl)) (.e0 (zL Z32 (tm rfl) (tm rfl) rfl rfl (.inr ⟨_,rfl⟩) ((oN _ _ aB).trans (oS _ _ _)) (lB rfl)) ?_);try first|rw[sS]|rw[sU aB]
  iterate 3 refine AX ?_
  refine AWP.dropb (fS hb5 _) ?_;refine AWP.frz (t:=2) rfl (hb2) ?_;iterate 6 refine AX ?_
  refine Ret.go (.cons (.cellI _ _ _ _ rfl G32 Z32 rfl) (.cons (.tmp _ _ rfl) .nil)) _ (hRa _) ?_;refine⟨?_,rfl⟩;have hf:auC s=some i:=akF hi6 hc13 hl;simp only[yT,aiH,hf]
  simp_all[buO,FLoc.cs]
  all_goals rfl
 try simp only[aR,cU]at hc7
 iterate 7 refine AX ?_
 refine .p rfl (yU zr32 pl32 .nil rfl) (.e0 (zL Z32 (tm rfl) (tm rfl) rfl rfl (.inr ⟨_,rfl⟩) (oS _ _ _) (lB rfl)) ?_);try first|rw[sS]|rw[sU aB]
 iterate 3 refine AX ?_
 refine AWP.frz (t:=2) rfl (hb2) ?_;refine AX ?_;refine Ret.go (.cons (.cellI _ _ _ _ rfl G32 Z32 rfl) (.cons (.tmp _ _ rfl) .nil)) _ (hRa _) ?_;refine⟨?_,rfl⟩;have hf:auC s=none:=boO λj hj=>hl j aA;simp only[yT,aiH,hf];rfl
theorem akE{l:Loc}(hl:l∈locs):Fn 20 [.str l.name] (.tuple [pL l (szA l),.int .i64 0]):=by
 intro H;have h:=bpV l.name H;obtain⟨h1,h2⟩:=bvS l hl;rw[h1,h2]at h;exact h
theorem bxK:Fn 29 [] (.slice 10 (locs.map rL) .full):=by
 intro H;refine .of_body func29 rfl ntmps29 results29 rfl ?_;iterate 2 refine AX ?_
 refine .p rfl (zE (aeH (sz:=10) (tl:=.full))) ?_;iterate 4 refine AX ?_
 refine .p rfl (aiC zr34 pl34 (.cons (zO rfl) (.inl rfl) (.cons (zO rfl) (.inl rfl) (.cons (zO rfl) (.inl rfl) (.cons (zO rfl) (.inl rfl) (.cons (zO rfl) (.inl rfl) (.cons (zO rfl) (.inl rfl) (.cons (zO rfl) (.inl rfl) (.cons zT (.inl rfl) (.cons zT (.inl rfl) (.cons zJ (.inl rfl) .nil)))))))))) rfl rfl) ?_;refine .p rfl (aiC zr34 pl34 (.cons (zO rfl) (.inl rfl) (.cons (zO rfl) (.inl rfl) (.cons (zO rfl) (.inl rfl) (.cons (zO rfl) (.inl rfl) (.cons (zO rfl) (.inl rfl) (.cons (zO rfl) (.inl rfl) (.cons (zO rfl) (.inl rfl) (.cons zT (.inl rfl) (.cons zT (.inl rfl) (.cons zJ (.inl rfl) .nil)))))))))) rfl rfl) ?_;refine .p rfl (aiC zr34 pl34 (.cons (zO rfl) (.inl rfl) (.cons (zO rfl) (.inl rfl) (.cons (zO rfl) (.inl rfl) (.cons (zO rfl) (.inl rfl) (.cons (zO rfl) (.inl rfl) (.cons (zO rfl) (.inl rfl) (.cons (zO rfl) (.inl rfl) (.cons zT (.inl rfl) (.cons zT (.inl rfl) (.cons zJ (.inl rfl) .nil)))))))))) rfl rfl) ?_;refine .p rfl (aiC zr34 pl34 (.cons (zO rfl) (.inl rfl) (.cons (zO rfl) (.inl rfl) (.cons (zO rfl) (.inl rfl) (.cons (zO rfl) (.inl rfl) (.cons (zO rfl) (.inl rfl) (.cons (zO rfl) (.inl rfl) (.cons (zO rfl) (.inl rfl) (.cons zT (.inl rfl) (.cons zT (.inl rfl) (.cons zJ (.inl rfl) .nil)))))))))) rfl rfl) ?_;refine .p rfl (aiC zr34 pl34 (.cons (zO rfl) (.inl rfl) (.cons (zO rfl) (.inl rfl) (.cons (zO rfl) (.inl rfl) (.cons (zO rfl) (.inl rfl) (.cons (zO rfl) (.inl rfl) (.cons (zO rfl) (.inl rfl) (.cons (zO rfl) (.inl rfl) (.cons zT (.inl rfl) (.cons zT (.inl rfl) (.cons zJ (.inl rfl) .nil)))))))))) rfl rfl) ?_;refine .p rfl (aiC zr34 pl34 (.cons (zO rfl) (.inl rfl) (.cons (zO rfl) (.inl rfl) (.cons (zO rfl) (.inl rfl) (.cons (zO rfl) (.inl rfl) (.cons (zO rfl) (.inl rfl) (.cons (zO rfl) (.inl rfl) (.cons (zO rfl) (.inl rfl) (.cons zT (.inl rfl) (.cons zT (.inl rfl) (.cons zJ (.inl rfl) .nil)))))))))) rfl rfl) ?_;refine .e rfl (awY underlying79 Z34 zeroValue34 rfl rfl rfl (.cons (tm rfl) (.inr ⟨_,rfl⟩) (.cons (tm rfl) (.inr ⟨_,rfl⟩) (.cons (tm rfl) (.inr ⟨_,rfl⟩) (.cons (tm rfl) (.inr ⟨_,rfl⟩) (.cons (tm rfl) (.inr ⟨_,rfl⟩) (.cons (tm rfl) (.inr ⟨_,rfl⟩) .nil)))))) (afQ ⟨rfl,rfl⟩ (afQ ⟨rfl,rfl⟩ (afQ ⟨rfl,rfl⟩ (afQ ⟨rfl,rfl⟩ (afQ ⟨rfl,rfl⟩ (afQ ⟨rfl,rfl⟩ brW))))))) ?_;iterate 5 refine AX ?_
 exact⟨rfl,rfl⟩
theorem ajV(n:Nat)(hn:0<n∧n≤100)(c:Int)(hc: -9223372036854775808≤c∧c≤9223372036854775807)(H:Heap):ACall prog 19 [.int .i64 c,.int .i64 (n:Int)] H (λy H'=>(∃k:Nat,k<n∧y= .int .i64 (k:Int))∧H'=H):=by
 refine .of_body func19 rfl ntmps19 results19 rfl ?_;iterate 5 refine AX ?_
 refine .seqToL [(0,.int .i64 (if c<0 then-(c+1)else c))] [1,4] ?_ ?_
 ·iterate 6 refine AX ?_
  refine .cx rfl (λhc6=>?_) (λhc6=>?_)
  ·iterate 6 refine AX ?_
   exact⟨rfl,(zR rfl (by(rw[aN aB];done)) sX),rfl⟩
  refine AX ?_;exact⟨rfl,(zR rfl (by(rw[aJ];done)) sX),rfl⟩
 refine .sub [(0,_),(1,_),(4,_)] sX ?_;generalize hq:(if c<0 then-(c+1)else c)=q;have hq0:0≤q:=by rw[←hq];split<;>omega
 have hm1:=Int.emod_nonneg q (show(n:Int)≠0 by omega);have hm2:=Int.emod_lt_of_pos q (show 0<(n:Int) by omega);iterate 4 refine AX ?_
 refine .p rfl (amJ (tm rfl) (tm rfl) aA) ?_;iterate 5 refine AX ?_
 refine⟨⟨(q%(n:Int)).toNat,by omega,?_⟩,rfl⟩;show AV.int .i64 _=_;congr 1;rw[Int.tmod_eq_emod_of_nonneg hq0];omega
theorem bgK(c:Int)(hc: -9223372036854775808≤c∧c≤9223372036854775807)(H:Heap):ACall prog 11 [.int .i64 c] H (λy H'=>(∃l,l∈locs∧y= .tuple [pL l (szA l),rL l])∧H'=H):=by
 refine ACall.of_body func11 rfl ntmps11 results11 rfl ?_;iterate 2 refine AX ?_
 refine .al zr32 (λb2 hb2=>?_);refine .al zr34 (λb3 hb3=>?_);have hn2_3:=Heap.ne_of (oS _ _ _) hb3;iterate 4 refine AX ?_
 refine .cl rfl call29 .nil (bxK _) ?_;refine AX ?_;refine .s rfl (zB C19 (.cons (tm rfl) (.cons zJ .nil)) (ajV 6 aC c hc _)) ?_;rintro _ _ ⟨⟨k,hk6,rfl⟩,hH⟩;obtain rfl:=hH.symm;have hkl:k<locs.length:=hk6;have hlm:locs[k]∈locs:=cF hkl;iterate 2 refine AX ?_
 refine .al zr34 (λb4 hb4=>?_);have hn2_4:=Heap.ne_of (oS _ _ _) hb4;have hn3_4:=Heap.ne_of (oS _ _ _) hb4;iterate 3 refine AX ?_
 refine AWP.frz (t:=4) rfl (hb4) ?_;iterate 2 refine AX ?_
 refine .p rfl (zA U34 rfl Z9 (tm rfl)) ?_;refine AX ?_;refine .cl rfl C20 (evs1 rfl) (akE hlm _) ?_;iterate 3 refine AX ?_
 refine .al zr32 (λb5 hb5=>?_);have hn2_5:=Heap.ne_of (oS _ _ _) hb5;have hn3_5:=Heap.ne_of (oS _ _ _) hb5;iterate 4 refine AX ?_
 refine AWP.frz (t:=5) rfl (hb5) ?_;refine AX ?_;refine AWP.draw [(0,true),(1,true),(2,false),(3,false)] rfl aE ?_;iterate 2 refine AX ?_
 refine .s0 rfl (zL Z32 (tm rfl) (tm rfl) rfl rfl (.inr ⟨_,rfl⟩) ((oN _ _ aB).trans (oS _ _ _)) (lB rfl)) ?_;rintro _ _ ⟨rfl,hH⟩;obtain rfl:=hH.symm;try first|rw[sS]|rw[sU aB]
 refine .s0 rfl (zL Z34 (tm rfl) (tm rfl) rfl rfl (.inr ⟨_,rfl⟩) (oS _ _ _) (lB rfl)) ?_;rintro _ _ ⟨rfl,hH⟩;obtain rfl:=hH.symm;try first|rw[sS]|rw[sU aB]
 iterate 2 refine AX ?_
 refine AWP.frz (t:=3) rfl (fS hb3 _) ?_;refine AWP.frz (t:=2) rfl (hb2) ?_;refine AX ?_;refine Ret.go (.cons (.cellI _ _ _ _ rfl G32 Z32 rfl) (.cons (.cellI _ _ _ _ rfl isAgg34 Z34 rfl) .nil)) _ (hRa _) ?_;exact⟨⟨locs[k],hlm,rfl⟩,rfl⟩
end Go.Proofs.YteedncdcbgplfaaGreatDoor
