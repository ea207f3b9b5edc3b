import Derived.Test.YtmmgbnolccpjoaaGreatDoorQdk
import Derived.Lib.TrimUEq
namespace Go.Proofs.YtmmgbnolccpjoaaGreatDoor
open Go.Proofs.Tryz
open Go Go.RowKit
variable{g:G}{T:TypeId}{ms:Array (String×TypeId)}
theorem aeO(s p:List UInt8):(Lib.trimPrefix s p).length≤s.length:=by
 unfold Lib.trimPrefix;split
 ·rw[bD];omega
 exact aV _
theorem aeN(s p:List UInt8):(Lib.trimSuffix s p).length≤s.length:=by
 unfold Lib.trimSuffix;split
 ·rw[aS];omega
 exact aV _
theorem bkI(s p:List UInt8):(Lib.cut s p).1.length≤s.length∧(Lib.cut s p).2.1.length≤s.length:=by
 unfold Lib.cut;split
 ·simp only[aS,bD];omega
 exact⟨aV _,Nat.zero_le _⟩
theorem cutPrefixA(s p:List UInt8):Fn 93 [.str s,.str p] (.tuple [.str (Lib.trimPrefix s p),.bool (Lib.hasPrefix s p)]):=by
 intro H;refine .lib _ λg vs w k st=>?_;obtain⟨v,u,rfl,hv,hu⟩:=relvs2 k;cases hv with|str _ hs=>?_
 cases hu
 refine(Tryz.strings_CutPrefix ⟨s.toArray⟩ ⟨p.toArray⟩ w).mono ?_;rintro e w' ⟨rfl,rfl⟩;exact⟨_,rfl,RelV.two (.str _ (aZ (aeO s p) hs)) (.bool _),Below.refl _ _⟩
theorem cutSuffixA(s p:List UInt8):Fn 94 [.str s,.str p] (.tuple [.str (Lib.trimSuffix s p),.bool (Lib.hasSuffix s p)]):=by
 intro H;refine .lib _ λg vs w k st=>?_;obtain⟨v,u,rfl,hv,hu⟩:=relvs2 k;cases hv with|str _ hs=>?_
 cases hu
 refine(Tryz.strings_CutSuffix ⟨s.toArray⟩ ⟨p.toArray⟩ w (by show s.toArray.size≤_;rw[zJ]at hs;simpa using hs)).mono ?_;rintro e w' ⟨rfl,rfl⟩;exact⟨_,rfl,RelV.two (.str _ (aZ (aeN s p) hs)) (.bool _),Below.refl _ _⟩
theorem cutA(s p:List UInt8)(hs:s.length≤1000000):Fn 212 [.str s,.str p] (.tuple [.str (Lib.cut s p).1,.str (Lib.cut s p).2.1,.bool (Lib.cut s p).2.2]):=by
 intro H;refine .lib _ λg vs w k st=>?_;obtain⟨v,u,rfl,hv,hu⟩:=relvs2 k;cases hv with|str _ hs2=>?_
 cases hu
 obtain⟨m,hm⟩:=st.maxCell;refine(Tryz.strings_Cut ⟨s.toArray⟩ ⟨p.toArray⟩ m w (by show s.toArray.size<_;rw[eQ];omega) hm).mono ?_;rintro e w' ⟨rfl,n,rfl⟩;have hl:=bkI s p;refine⟨_,rfl,.tuple _ _ rfl λi c z hc hz=>?_,bkW _ _ _⟩
 match i with
 |0=>simp at hc hz;subst hc;subst hz;exact .str _ (aZ hl.1 hs2)
 |1=>simp at hc hz;subst hc;subst hz;exact .str _ (aZ hl.2 hs2)
 |2=>simp at hc hz;subst hc;subst hz;exact .bool _
 |_+3=>simp at hc
theorem indexByteA(s:List UInt8)(c:Nat):Fn 209 [.str s,.int .u8 (c:Int)] (.int .i64 (Lib.indexByte s c.toUInt8)):=by
 intro H;refine .lib _ λg vs w k st=>?_;obtain⟨v,u,rfl,hv,hu⟩:=relvs2 k;cases hv;cases hu
 refine(Tryz.strings_IndexByte ⟨s.toArray⟩ (c:Int) w).mono ?_;rintro e w' ⟨rfl,rfl⟩;rw[dL];exact⟨_,rfl,.int _ _,Below.refl _ _⟩
section
open Go Go.RowKit Go.Lib
def qU(p:Nat→Bool):Nat→List UInt8→List UInt8
 |0,l=>l
 |f+1,l=>if l=[]then []else if p (decodeL l).1 then qU p f (l.drop (decodeL l).2)else l
def abR(p:Nat→Bool):Nat→List UInt8→List UInt8
 |0,l=>l
 |f+1,l=>if l=[]then []else if p (decodeLastL l).1 then abR p f (l.take (l.length-(decodeLastL l).2))else l
def aaQ(p:Nat→Bool)(l:List UInt8):List UInt8:=abR p l.length (qU p l.length l)
theorem abJ(p:Nat→Bool):∀f,qU p f []=[]
 |0=>rfl
 |f+1=>by simp[qU]
theorem abW(p:Nat→Bool):∀f,abR p f []=[]
 |0=>rfl
 |f+1=>by simp[abR]
theorem agJ(p:Nat→Bool)(f:Nat){l:List UInt8}(h:l≠[]):qU p (f+1) l=if p (decodeL l).1=true then qU p f (l.drop (decodeL l).2)else l:=by
 simp[qU,h]
theorem amB(p:Nat→Bool)(f:Nat){l:List UInt8}(h:l≠[]):abR p (f+1) l=if p (decodeLastL l).1=true then abR p f (l.take (l.length-(decodeLastL l).2))else l:=by
 simp[abR,h]
theorem bnS(p:Nat→Bool)(s:ByteArray):∀(f pos:Nat),s.size≤pos+f→
  qU p f (s.data.toList.drop pos)=if idxFuncFrom p false s f pos= -1 then []else s.data.toList.drop (idxFuncFrom p false s f pos).toNat
 |0,pos,h=>by
  have:s.data.toList.drop pos=[]:=fV (by rw[←size_eq];omega);simp[qU,idxFuncFrom,this]
 |f+1,pos,h=>by
  by_cases hp:pos<s.size
  ·have hne:s.data.toList.drop pos≠[]:=by
    intro h0;have:=congrArg List.length h0;rw[bD,←size_eq]at this;simp at this;omega
   have hw:=width_pos s pos;simp only[qU,idxFuncFrom,aL hne,aN hp,decodeL_drop];cases hsp:p (Utf8.decode s pos).1 with
   |true=>
    simp only[if_true,fY,Bool.true_eq_false,if_false];exact bnS p s f _ aA
   |false=>
    simp only[eT,if_false,if_true];rw[aI,dL]
  have:s.data.toList.drop pos=[]:=fV (by rw[←size_eq];omega);rw[this,abJ,idxFuncFrom_end p false s _ _ hp,aN rfl]
theorem ajY(p:Nat→Bool)(s:ByteArray):(trimLeftF p s).data.toList=qU p s.data.toList.length s.data.toList:=by
 have h:=bnS p s s.size 0 aA;rw[cU]at h;rw[←size_eq,h];unfold trimLeftF idxFunc;split
 ·rfl
 rw[extract_data,bA (by rw[bD,←size_eq];exact aV _)]
theorem acZ(p:Nat→Bool):∀(f:Nat)(l:List UInt8),(qU p f l).length≤l.length
 |0,_=>aV _
 |f+1,l=>by
  unfold qU;split
  ·simp
  split
  ·exact aZ (acZ p f _) (by rw[bD];omega)
  exact aV _
theorem agI(p:Nat→Bool):∀(f:Nat)(l:List UInt8),(abR p f l).length≤l.length
 |0,_=>aV _
 |f+1,l=>by
  unfold abR;split
  ·simp
  split
  ·exact aZ (agI p f _) (by rw[aS];omega)
  exact aV _
theorem asN(p:Nat→Bool):∀(f g:Nat)(l:List UInt8),l.length≤f→l.length≤g→qU p f l=qU p g l
 |0,g,l,hf,_=>by
  have:l=[]:=eH aA;rw[this,abJ,abJ]
 |f+1,0,l,_,hg=>by
  have:l=[]:=eH aA;rw[this,abJ,abJ]
 |f+1,g+1,l,hf,hg=>by
  by_cases hne:l=[]
  ·rw[hne,abJ,abJ]
  have hw:=decodeL_width l;have hlen:=bS.2 hne;simp only[qU,aL hne];split
  ·exact asN p f g _ (by rw[bD];omega) (by rw[bD];omega)
  rfl
theorem asM(p:Nat→Bool):∀(f g:Nat)(l:List UInt8),l.length≤f→l.length≤g→abR p f l=abR p g l
 |0,g,l,hf,_=>by
  have:l=[]:=eH aA;rw[this,abW,abW]
 |f+1,0,l,_,hg=>by
  have:l=[]:=eH aA;rw[this,abW,abW]
 |f+1,g+1,l,hf,hg=>by
  by_cases hne:l=[]
  ·rw[hne,abW,abW]
  have hw:=decodeLastL_width l (bS.2 hne);simp only[abR,aL hne];split
  ·exact asM p f g _ (by rw[aS];omega) (by rw[aS];omega)
  rfl
theorem opensP(p:Nat→Bool)(hp:p 65533=false)(l:List UInt8)(i:Nat)(hi:0<i)(hil:i≤l.length)(hsp:p (decodeLastL (l.take i)).1=true):OpenAt l (i-(decodeLastL (l.take i)).2):=by
 rcases last_cases l i hi hil with⟨ha,hd⟩|⟨ha,hd⟩|⟨ha,st,hst,hd,hsum⟩
 ·rw[hd];exact .inr (by show(l.getD (i-1) 0).toNat/64≠2;omega)
 ·rw[hd]at hsp;exact absurd hsp (by rw[hp];decide)
 rw[hd]at hsp ⊢;rw[show i-(decodeL ((l.take i).drop st)).2=st by omega];refine .inr λhc=>?_;rw[decodeL_N,getD_dropU,cB,getD_takeU l i st hst,decodeN_cont _ _ _ _ _ hc]at hsp;exact absurd hsp (by rw[hp];decide)
theorem bdO(p:Nat→Bool)(hp:p 65533=false)(s:ByteArray):∀(f i:Nat),i≤f→i≤s.data.toList.length→OpenAt s.data.toList i→
  abR p f (s.data.toList.take i)=s.data.toList.take (if 0≤lastIdxFuncFrom p false s f i then(lastIdxFuncFrom p false s f i).toNat+(decodeL (s.data.toList.drop (lastIdxFuncFrom p false s f i).toNat)).2 else 0)
 |0,i,hf,_,_=>by
  obtain rfl:i=0:=by omega
  simp[abR,lastIdxFuncFrom]
 |f+1,i,hf,hil,ho=>by
  by_cases hi:0<i
  ·have hlen:(s.data.toList.take i).length=i:=by rw[aS];omega
   have hne:s.data.toList.take i≠[]:=λh=>by rw[h]at hlen;simp at hlen;omega
   have hw:=decodeLastL_width (s.data.toList.take i) aA;rw[hlen]at hw;simp only[abR,lastIdxFuncFrom,aL hne,aN hi,hlen];cases hsp:p (decodeLastL (s.data.toList.take i)).1 with
   |true=>
    simp only[if_true,Bool.true_eq_false,if_false];rw[List.take_take,dN aA];exact bdO p hp s f _ aA aA (opensP p hp _ i hi hil hsp)
   |false=>
    simp only[eT,if_false,if_true];rw[aJ,dL,fw_width _ i hi hil ho,Nat.sub_add_cancel hw.2]
  obtain rfl:i=0:=by omega
  rw[lastIdxFuncFrom_zero];simp[abW]
theorem ayI(p:Nat→Bool)(s:ByteArray):∀(f i:Nat),i≤s.size→lastIdxFuncFrom p false s f i= -1∨(0≤lastIdxFuncFrom p false s f i∧lastIdxFuncFrom p false s f i<i)
 |0,_,_=>.inl rfl
 |f+1,i,hi=>by
  unfold lastIdxFuncFrom;split
  ·rename_i h0
   have hw:=decodeLastL_width (s.data.toList.take i) (by rw[aS,←size_eq];omega);rw[aS,←size_eq,dN hi]at hw;split
   ·exact .inr ⟨by omega,by omega⟩
   rcases ayI p s f (i-(decodeLastL (s.data.toList.take i)).2) aA with h|h
   ·exact .inl h
   exact .inr ⟨h.1,by omega⟩
  exact .inl rfl
theorem anA(p:Nat→Bool)(hp:p 65533=false)(s:ByteArray):(trimRightF p s).data.toList=abR p s.data.toList.length s.data.toList:=by
 have h:=bdO p hp s s.size s.size (aV _) (by rw[←size_eq];exact aV _) (.inl (size_eq s));rw[bA (by rw[←size_eq];exact aV _)]at h;rw[←size_eq,h];unfold trimRightF rightEndF lastIdxFunc;rw[extract_data,cU,gL];congr 1;split
 ·rename_i h0
  congr 2
  rcases ayI p s s.size s.size (aV _)with hm|hlt
  ·omega
  have hx:s.extract (lastIdxFuncFrom p false s s.size s.size).toNat s.size=⟨(s.data.toList.drop (lastIdxFuncFrom p false s s.size s.size).toNat).toArray⟩:=by
   rw[extract_eq,bA (by rw[bD,←size_eq];exact aV _)]
  have hxs:(⟨(s.data.toList.drop (lastIdxFuncFrom p false s s.size s.size).toNat).toArray⟩:ByteArray).size≠0:=by
   rw[size_eq];simp only[bD];rw[←size_eq];omega
  rw[hx];unfold decodeGoB decodeL;rw[aL hxs]
 rfl
theorem caT(p:Nat→Bool)(hp:p 65533=false)(s:ByteArray):(trimF p s).data.toList=aaQ p s.data.toList:=by
 unfold trimF aaQ;rw[anA p hp,ajY];exact asM p _ _ _ (aV _) (acZ p _ _)
/-! ### the blanks of an entry -/
def zQ(r:Nat):Bool:=r==32||r==9||r==160||r==8239
def afM(r:Nat):Bool:=decide (48≤r)&&decide (r≤57)
end
section
open Go Go.RowKit Go.Lib
set_option maxRecDepth 100000
theorem ceS(x:Nat)(W:World):Calls prog 92 #[.int .i32 (x:Int)] W λe w'=>e= .returned (.bool (zQ x))∧∃q,w'=W.drewN q:=by
 by_cases h1:x=32
 ·subst h1
  go_enter func92,ntmps92
  go_wp2
  refine⟨rfl,_,by simp[results,results92];rfl,?_,0,rfl⟩;first|rfl|simp[zQ, *]|(simp only[zQ];congr 1;simp[*])
 by_cases h2:x=9
 ·subst h2
  go_enter func92,ntmps92
  go_wp2
  refine⟨rfl,_,by simp[results,results92];rfl,?_,0,rfl⟩;first|rfl|simp[zQ, *]|(simp only[zQ];congr 1;simp[*])
 by_cases h3:x=160
 ·subst h3
  go_enter func92,ntmps92
  go_wp2
  refine⟨rfl,_,by simp[results,results92];rfl,?_,0,rfl⟩;first|rfl|simp[zQ, *]|(simp only[zQ];congr 1;simp[*])
 by_cases h4:x=8239
 ·subst h4
  go_enter func92,ntmps92
  go_wp2
  refine⟨rfl,_,by simp[results,results92];rfl,?_,0,rfl⟩;first|rfl|simp[zQ, *]|(simp only[zQ];congr 1;simp[*])
 have b1:((x:Int)==32)=false:=by simp;omega
 have b2:((x:Int)==9)=false:=by simp;omega
 have b3:((x:Int)==160)=false:=by simp;omega
 have b4:((x:Int)==8239)=false:=by simp;omega
 have c1:¬(x:Int)=32:=by omega
 have c2:¬(x:Int)=9:=by omega
 have c3:¬(x:Int)=160:=by omega
 have c4:¬(x:Int)=8239:=by omega
 have hb:zQ x=false:=by simp[zQ,h1,h2,h3,h4]
 rw[hb]
 go_enter func92,ntmps92
 go_wp2
 refine⟨rfl,_,by simp[results,results92];rfl,?_,0,rfl⟩;first|rfl|simp[*]
theorem ceD(x:Nat)(W:World):Calls prog 213 #[.int .i32 (x:Int)] W λe w'=>e= .returned (.bool (afM x))∧∃q,w'=W.drewN q:=by
 have hd:afM x=(decide ((48:Int)≤(x:Int))&&decide ((x:Int)≤57)):=by
  unfold afM;rw[show decide (48≤x)=decide ((48:Int)≤(x:Int))from aT.2 aA,show decide (x≤57)=decide ((x:Int)≤57)from aT.2 aA]
 rw[hd];by_cases h1:(48:Int)≤(x:Int)
 ·rw[aY h1]
  go_enter func213,ntmps213
  go_wp2
  refine⟨rfl,_,by simp[results,results213];rfl,?_,0,rfl⟩;first|rfl|simp[*]
 rw[bB h1]
 go_enter func213,ntmps213
 go_wp2
 refine⟨rfl,_,by simp[results,results213];rfl,?_,0,rfl⟩;first|rfl|simp[*]
theorem relfn{f:FuncId}{v:Value}(h:RelV g (.func f []) v):v= .func (.func f) #[] #[]:=by
 cases h with
 |func _ _ vs hn _=>
  have:vs= #[]:=Array.eq_empty_of_size_eq_zero (by simpa using hn.symm);rw[this]
theorem atF{W:World}(h:Inv W){n:Nat}{d:DataW Unit}{xs:List Value}(hn:(n,d)∈auS)(hx:agY 4 d=some xs){i:Nat}{v:Value}(hi:xs[i]?=some v):W.cell? ⟨n,i,none⟩=some v:=by
 obtain⟨T,fz,hh⟩:=h.rows n d hn xs hx;unfold World.cell?;rw[hh];simpa using hi
theorem bsF:agY 4 Rows.laid_unicode_utf8_first=some ((List.range 256).map λc=>Value.int .u8 (Lib.firstT c)):=by kernel_rfl
theorem avA:agY 4 Rows.laid_unicode_utf8_acceptRanges=some ((List.range 32).map λc=>Value.int .u8 (if c%2=0 then Lib.accLo (c/2)else Lib.accHi (c/2))):=by kernel_rfl
theorem Sat.utf8{H:Heap}{w:World}(s:Sat g H w):Lib.Utf8Tabs 5 6 w:=by
 have hl:=g.hinv.size;have key:∀(n:Nat),n<12→∀i,w.cell? ⟨n,i,none⟩=g.base.cell? ⟨n,i,none⟩:=λn hn i=>World.cell?_of_block (s.below.block n aA);refine⟨λc hc=>?_,λi hi=>⟨?_,?_⟩⟩
 ·rw[key 5 aC];exact atF g.hinv (by simp[auS]) bsF (by simp[hc])
 ·rw[key 6 aC];refine atF g.hinv (by simp[auS]) avA ?_;rw[fT,List.getElem?_range aA];simp
 rw[key 6 aC];refine atF g.hinv (by simp[auS]) avA ?_;rw[fT,List.getElem?_range aA];simp only[Option.map_some];rw[aI,show(2*i+1)/2=i by omega]
theorem asO(p:Nat→Bool)(s:List UInt8):(aaQ p s).length≤s.length:=aZ (agI p _ _) (acZ p _ _)
theorem blV{b:ByteArray}{l:List UInt8}(h:b.data.toList=l)(hl:l.length≤maxLen):RelV g (.str l) (.string b):=by
 have e:b=⟨l.toArray⟩:=by subst h;simp
 rw[e];exact .str l hl
theorem apX(w:World):PredAt prog 92 #[] encR zQ w:=λW x _=>ceS x W
theorem bsQ(w:World):PredAt prog 213 #[] encR afM w:=λW x _=>ceD x W
theorem trimFuncA(s:List UInt8):Fn 91 [.str s,.func 92 []] (.str (aaQ zQ s)):=by
 intro H;refine .lib _ λg vs w k st=>?_;obtain⟨v,u,rfl,hv,hu⟩:=relvs2 k;cases hv with|str _ hs=>?_
 rw[relfn hu];refine(Tryz.strings_TrimFunc 92 #[] call92 zQ ⟨s.toArray⟩ w (by show s.toArray.size≤_;rw[zJ]at hs;simpa using hs) st.utf8 (apX w)).mono ?_;rintro e w' ⟨rfl,hb⟩;exact⟨_,rfl,blV (caT zQ aC _) (aZ (asO _ _) hs),hb⟩
theorem trimRightFuncA(s:List UInt8):Fn 157 [.str s,.func 92 []] (.str (abR zQ s.length s)):=by
 intro H;refine .lib _ λg vs w k st=>?_;obtain⟨v,u,rfl,hv,hu⟩:=relvs2 k;cases hv with|str _ hs=>?_
 rw[relfn hu];refine(Tryz.strings_TrimRightFunc 92 #[] call92 zQ ⟨s.toArray⟩ w (by show s.toArray.size≤_;rw[zJ]at hs;simpa using hs) st.utf8 (apX w)).mono ?_;rintro e w' ⟨rfl,hb⟩;exact⟨_,rfl,blV (anA zQ aC _) (aZ (agI _ _ _) hs),hb⟩
theorem trimLeftFuncA(s:List UInt8):Fn 96 [.str s,.func 92 []] (.str (qU zQ s.length s)):=by
 intro H;refine .lib _ λg vs w k st=>?_;obtain⟨v,u,rfl,hv,hu⟩:=relvs2 k;cases hv with|str _ hs=>?_
 rw[relfn hu];refine(Tryz.strings_TrimLeftFunc 92 #[] call92 zQ ⟨s.toArray⟩ w (apX w)).mono ?_;rintro e w' ⟨rfl,hb⟩;exact⟨_,rfl,blV (ajY zQ _) (aZ (acZ _ _ _) hs),hb⟩
theorem trimDigitsA(s:List UInt8):Fn 96 [.str s,.func 213 []] (.str (qU afM s.length s)):=by
 intro H;refine .lib _ λg vs w k st=>?_;obtain⟨v,u,rfl,hv,hu⟩:=relvs2 k;cases hv with|str _ hs=>?_
 rw[relfn hu];refine(Tryz.strings_TrimLeftFunc 213 #[] call213 afM ⟨s.toArray⟩ w (bsQ w)).mono ?_;rintro e w' ⟨rfl,hb⟩;exact⟨_,rfl,blV (ajY afM _) (aZ (acZ _ _ _) hs),hb⟩
theorem aqO(old new:List UInt8):∀(k:Nat)(s:List UInt8),(Lib.replaceK old new k s).length≤s.length+k*new.length
 |0,s=>by rw[Lib.replaceK];omega
 |k+1,s=>by
  rw[Lib.replaceK];split
  ·omega
  have h:=aqO old new k (s.drop ((Lib.index s old).toNat+old.length));simp only[aP,aS,bD]at *;rw[bT];omega
theorem bbR(sub:List UInt8):∀(f:Nat)(s:List UInt8),Lib.countFrom sub f s≤f
 |0,s=>aV _
 |f+1,s=>by
  rw[Lib.countFrom];split
  ·omega
  have:=bbR sub f (s.drop ((Lib.index s sub).toNat+sub.length));omega
theorem alT(s old new:List UInt8):(Lib.replaceAll s old new).length≤s.length+(s.length+1)*new.length:=by
 unfold Lib.replaceAll Lib.replace;split
 ·omega
 refine aZ (aqO _ _ _ _) (Nat.add_le_add_left (bC _ ?_) _);unfold Lib.replaceNum;rw[aN (.inl aC)];exact bbR _ _ _
theorem replaceA(s old new:List UInt8)(hs:s.length≤100000)(ho:1≤old.length)(hn:new.length≤10):Fn 210 [.str s,.str old,.str new] (.str (Lib.replaceAll s old new)):=by
 intro H;refine .lib _ λg vs w k st=>?_;obtain⟨v,u,x,rfl,hv,hu,hx⟩:=relvs3 k;cases hv with|str _ hs2=>?_
 cases hu;cases hx
 obtain⟨m,hm⟩:=st.maxCell;have hc:Lib.countB ⟨s.toArray⟩ ⟨old.toArray⟩≤s.length+1:=by
  show Lib.count s old≤_;exact bbR _ _ _
 have hcn:Lib.countB ⟨s.toArray⟩ ⟨old.toArray⟩*new.length≤(s.length+1)*10:=cS hc hn;have hl:=alT s old new;have hl2:(s.length+1)*new.length≤(s.length+1)*10:=bV _ hn;refine(Tryz.strings_ReplaceAll ⟨s.toArray⟩ ⟨old.toArray⟩ ⟨new.toArray⟩ m w (by show s.toArray.size<_;rw[eQ];omega) hm (by show 1≤old.toArray.size;rw[eQ];omega) (by show s.toArray.size+_*new.toArray.size≤_;rw[eQ,eQ];omega)).mono ?_;rintro e w' ⟨rfl,hb⟩;exact⟨_,rfl,.str _ (by rw[zJ];show(Lib.replaceAll s old new).length≤_;omega),hb⟩
def cnR(b:Bool)(x:AV):Prop:=(b=false∧x= .nilIface)∨(b=true∧∃t y,x= .iface t y)
def aoN(s:List UInt8):Bool:=match Lib.atoiAll s with| .ok _=>false|_=>true
theorem ACall.libE{P:Program}{f:FuncId}{xs:List AV}{H:Heap}(Y:AV→Prop)(h:∀g vs w,RelVs g xs vs→Sat g H w→Calls P f vs.toArray w (λe w'=>∃v y,e= .returned v∧RelV g y v∧Y y∧Below w.heap.size w w')):ACall P f xs H (λz H'=>Y z∧H'=H):=
 λg vs w k s=>(h g vs w k s).mono λ_ _ ⟨v,y,he,hr,hy,hb⟩=>⟨v,he,g,y,H,.id,hr,s.grow hb,hy,rfl⟩
theorem atoiAny(s:List UInt8)(hs:s.length≤100000)(H:Heap):ACall prog 257 [.str s] H (λz H'=>(∃v ev,z= .tuple [.int .i64 v,ev]∧cnR (aoN s) ev∧(aoN s=false→Lib.atoiAll s= .ok v))∧H'=H):=by
 refine .libE _ λg vs w k st=>?_;obtain⟨x,rfl,hx⟩:=relvs1 k;cases hx with|str _ hs2=>?_
 have cell:∀n,n=8∨n=9→∃te pe,w.cell? ⟨n,0,none⟩=some (.iface te pe):=λn hn=>by
  obtain⟨te,pe,h⟩:=g.hinv.errs n hn;have hlt:=World.block_lt_of_cell? _ (a:=⟨n,0,none⟩) h;exact⟨te,pe,by rw[World.cell?_of_block (w:=g.base) (st.below.block n hlt)];exact h⟩
 cases hr:Lib.atoiAll s with
 |ok v=>
  refine(Tryz.strconv_Atoi_ok ⟨s.toArray⟩ (by show s.toArray.size≤_;rw[eQ];omega) v hr w).mono ?_;rintro e w' ⟨rfl,hw⟩;refine⟨_,_,rfl,RelV.two (.int _ _) .nilIface,⟨v,_,rfl,.inl ⟨by unfold aoN;rw[hr],rfl⟩,λ_=>rfl⟩,?_⟩;rcases hw with rfl|⟨t,rfl⟩
  ·exact Below.refl _ _
  exact⟨rfl,rfl,rfl,by rw[Lib.bytesWorld_size];omega,λk hk=>Lib.bytesWorld_at_old _ _ _ k hk⟩
 |range=>
  obtain⟨te,pe,hc⟩:=cell 9 (.inr rfl);refine(Tryz.strconv_Atoi_range ⟨s.toArray⟩ (by show s.toArray.size≤_;rw[eQ];omega) hr _ w hc (.inr ⟨te,pe,rfl⟩)).mono ?_;rintro e w' ⟨N,rfl,_,_,hb⟩;exact⟨_,_,rfl,RelV.two (.int _ _) (.iface _ _ _ (.ptr _)),⟨_,_,rfl,.inr ⟨by unfold aoN;rw[hr],_,_,rfl⟩,λh=>by unfold aoN at h;rw[hr]at h;cases h⟩,hb⟩
 |_=>
  obtain⟨te,pe,hc⟩:=cell 8 (.inl rfl);refine(Tryz.strconv_Atoi_syntax ⟨s.toArray⟩ (by show s.toArray.size≤_;rw[eQ];omega) (by show Lib.atoiAll s=_;rw[hr];rfl) _ w hc (.inr ⟨te,pe,rfl⟩)).mono ?_;rintro e w' ⟨N,rfl,_,_,hb⟩;exact⟨_,_,rfl,RelV.two (.int _ _) (.iface _ _ _ (.ptr _)),⟨_,_,rfl,.inr ⟨by unfold aoN;rw[hr],_,_,rfl⟩,λh=>by unfold aoN at h;rw[hr]at h;cases h⟩,hb⟩
section
variable{P:Program}{env:Env}{H:Heap}{dst:Option Tmp}{ty:TypeId}{pos:String}{af:Array Edge}{gd:Option (Nat×Bool)}
theorem azV(hu:P.underlying T=some (.interface ms))(t:TypeId)(v:Value)(w:World):(Op.equal T (.iface t v) .nilIface).run P w= .ok false w:=by
 have key:∀d,(Op.equalIn (d+1) T (.iface t v) .nilIface).run P w= .ok false w:=λd=>by simp[Op.equalIn,underlying,hu]
 exact key 9999
theorem biB(hu:P.underlying T=some (.interface ms))(w:World):(Op.equal T .nilIface .nilIface).run P w= .ok true w:=by
 have key:∀d,(Op.equalIn (d+1) T .nilIface .nilIface).run P w= .ok true w:=λd=>by simp[Op.equalIn,underlying,hu]
 exact key 9999
theorem bqS{T':TypeId}{x:Operand}{b:Bool}{e:AV}(hu:P.underlying T=some (.interface ms))(hx:Ev env x e)(hb:cnR b e):APure P ⟨dst,.binOp .neq T x (.const .nilIface) T',ty,pos,af,gd⟩ env (.bool b):=by
 intro g n a ka;obtain⟨v,he,hv⟩:=ev1 hx ka;rcases hb with⟨rfl,rfl⟩|⟨rfl,t,z,rfl⟩
 ·cases hv
  exact⟨_,.bool _,λw _=>adM he rfl (by cases x<;>rfl) (apD rfl (biB hu w))⟩
 cases hv
 exact⟨_,.bool _,λw _=>adM he rfl rfl (apD rfl (azV hu _ _ w))⟩
end
/-! ### digits alone -/
theorem ceI{n b0 b1 b2 b3:Nat}(h:128≤b0):128≤(decodeN n b0 b1 b2 b3).1:=by
 unfold decodeN
 repeat' split
 all_goals (simp only;omega)
theorem bgD{x:UInt8}{l:List UInt8}:afM (decodeL (x::l)).1=true↔isD x:=by
 rw[decodeL_N];simp only[cI];unfold afM isD;rcases cG x.toNat 128 with h|h
 ·rw[decodeN_ascii _ _ _ _ _ h];simp
 have:=@ceI (x::l).length x.toNat ((x::l).getD 1 0).toNat ((x::l).getD 2 0).toNat ((x::l).getD 3 0).toNat h;simp only[bL,aO];omega
theorem bzB{x:UInt8}{l:List UInt8}(h:isD x):(decodeL (x::l)).2=1:=by
 rw[decodeL_N];simp only[cI];rw[decodeN_ascii _ _ _ _ _ (by unfold isD at h;omega)]
theorem agH:∀(f:Nat)(s:List UInt8),s.length≤f→(qU afM f s=[]↔Digs s)
 |f,[],_=>by rw[abJ];exact⟨λ_ _ h=>by simp at h,λ_=>rfl⟩
 |0,x::l,h=>by simp at h
 |f+1,x::l,h=>by
  rw[agJ _ _ aF];by_cases hx:isD x
  ·rw[aN (bgD.2 hx),bzB hx,fI,cU,agH f l (by simpa using h)];exact⟨λq b hb=>by rcases cP.1 hb with rfl|hb;exact hx;exact q b hb,λq b hb=>q b (by simp[hb])⟩
  rw[aL (λq=>hx (bgD.1 q))];exact⟨λq=>by simp at q,λq=>absurd (q x aF) hx⟩
end
end Go.Proofs.YtmmgbnolccpjoaaGreatDoor
