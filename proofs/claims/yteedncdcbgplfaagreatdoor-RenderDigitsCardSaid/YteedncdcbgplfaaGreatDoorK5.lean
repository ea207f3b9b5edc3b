import Derived.Test.YteedncdcbgplfaaGreatDoorK4
set_option maxHeartbeats 1000000
namespace Go.Proofs.YteedncdcbgplfaaGreatDoor
open Go.Proofs.Tryz
open Go Go.RowKit
variable{b c i:Nat}{r st st2:RdN}{A H:Heap}{x:AObj}
section
set_option maxRecDepth 100000
theorem baF{env:Env}{K:Heap}{dst:Option Tmp}{ty:TypeId}{pos:String}{af:Array Go.Edge}{gd:Option (Nat×Bool)}{x y:Operand}{tl':Tail}{R:AObj}{br:Nat}(hbr:K.objs br=none)(hx:Ev env x (.slice 3 [] .full))(hy:Ev env y (.slice 3 [.agg cdD] tl')):
  AStep prog ⟨dst,.call {callee:=.builtin .append,args:= #[x,y],argTypes:= #[22,22]},ty,pos,af,gd⟩ env (K.set br R) (λr H'=>∃bs c pad,r= .mslice (some ⟨bs,0,none⟩) 1 c∧RdK K K br bs .full .full∧1≤c∧c≤maxLen∧pad.length=3*(c-1)∧H'=(K.set br R).set bs (scR ⟨[],false,0⟩ .full [] pad)):=by
 have h:=axA (dst:=dst) (ty:=ty) (pos:=pos) (af:=af) (gd:=gd) (sz:=2) (zc:=cdD) (H:=K.set br R) U22 U22 Z52 typeInfo52 V52 rfl zr52 aC hx hy (by intro q hq;rw[eU.1 hq];exact⟨rfl,rfl⟩) aC aC;refine h.mono ?_;rintro r H' ⟨b',c',hb',rfl,h2,h3,rfl⟩;have e2:b'≠br:=λe=>by subst e;rw[oS]at hb';cases hb'
 exact⟨b',c',apW cdD (c'-1),rfl,⟨hRa _,hbr,by rw[oN _ _ e2]at hb';exact hb',e2.symm,trivial,trivial,(λ_ q=>by cases q)⟩,h2,h3,by rw[alU];show(c'-1)*3=_;omega,rfl⟩
def rdI(s:List UInt8):AObj:=.box 112 [.str s,.int .i64 0,.slice 3 [] .full,.slice 1 [] .full,.int .i64 0,.bool false]
theorem bbD(H0 K:Heap)(s:List UInt8)(st:RdN)(br bs c:Nat)(pre pad:List AV)(tl tf:Tail)(hK:RdK H0 K br bs tl tf)(hpre:pre.length=3*st.ini.length)(hini:st.ini.length≤3)(h3:st.ini.length≠3)(hc:st.ini.length+1≤c)(hcm:c≤maxLen)(hpad:pad.length=3*(c-(st.ini.length+1)))(hfl:st.frm.length≤10)(H:Heap)(hH:H=RH s st K br bs c pre pad tl tf):ACall prog 60 [.ptr (some ⟨br,0,none⟩)] H (λ_ H'=>∃K' bs' c' pad' tf',RdK H0 K' br bs' .full tf'∧st.ini.length+1+1≤c'∧c'≤maxLen∧pad'.length=3*(c'-(st.ini.length+1+1))∧H'=RH s (bdB st) K' br bs' c' (pre++st.cur.cs tl) pad' .full tf'):=by
 subst hH;unfold RH;have hne:=hK.ne;have hne2:=hK.ne.symm;refine ACall.of_body func60 rfl ntmps60 results60 rfl ?_;iterate 5 refine AX ?_
 refine .p rfl (zC U112 rfl Z24 (tm rfl)) (.p rfl (zC U24 rfl Z22 (tm rfl)) ?_);iterate 5 refine AX ?_
 refine AWP.cx rfl (λhc8=>?_) (λhc8=>?_)
 ·omega
 iterate 7 refine AX ?_
 refine .p rfl (zC U112 rfl Z24 (tm rfl)) (.p rfl (zC U24 rfl Z22 (tm rfl)) ?_);refine AX ?_;refine .p rfl (yY [(0,1),(1,1),(2,1)] U52 V52 (zr52) rfl (pl52 _ U52) .nil rfl) (.e rfl (yJ U22 Z52 V52 rfl (tm rfl) (.inr ⟨_,rfl⟩) ⟨rfl,rfl⟩) (.s rfl (bdZ hK (tm rfl) (tm rfl) hpre hc aA hpad hcm) ?_));rintro _ _ ⟨K1,bs1,c1,pad1,rfl,hK1,hc1,hcm1,hpad1,hH⟩;obtain rfl:=hH;have hne1:=hK1.ne;have hne21:=hK1.ne.symm;refine AX ?_;refine .p rfl (zC U112 rfl Z24 (tm rfl)) (.p rfl (zC U24 rfl Z22 (tm rfl)) (.e0 (zL Z22 (tm rfl) (tm rfl) rfl rfl (.inl rfl) ((oN _ _ aB).trans (oS _ _ _)) (lB rfl)) ?_));try first|rw[sS]|rw[sU aB]
 iterate 3 refine AX ?_
 refine AWP.draw2 [(0,true),(1,true),(2,true),(3,true),(5,true),(6,true),(7,true)] 4 8 [(8,false),(9,true),(10,false),(11,true),(12,true),(13,false)] [(9,true),(4,false),(10,false),(11,true),(12,true),(13,false)] rfl aE ?_;iterate 3 refine AX ?_
 refine .p rfl rfl (zC U112 rfl Z30 (tm rfl)) ?_;iterate 2 refine AX ?_
 refine .p rfl rfl (zC U112 rfl Z3 (tm rfl)) ?_;refine AX ?_;refine⟨?_,?_⟩
 ·refine XTwo.s rfl rfl (zM G30 (tm rfl) ((oN _ _ aB).trans (oS _ _ _)) rfl) ?_;rintro _ _ ⟨rfl,hH⟩;obtain rfl:=hH.symm;refine .s rfl rfl (zM G3 (tm rfl) ((oN _ _ aB).trans (oS _ _ _)) rfl) ?_;rintro _ _ ⟨rfl,hH⟩;obtain rfl:=hH.symm;refine APlan.f rfl rfl (λ_=>yJ U30 Z3 V3 rfl (tm rfl) (.inl rfl) ⟨rfl,rfl⟩) ?_;refine .s rfl rfl (agF st.loc (tm rfl) (tm rfl) (RoomK.room hK1.rf rfl) aA) ?_;rintro _ _ ⟨t38,hf38,rfl,hH⟩;obtain rfl:=hH;rw[ahM,ahM,Heap.live_one,Heap.live_one];refine AX ?_;refine .p rfl rfl (zC U112 rfl Z30 (tm rfl)) (.s0 rfl (zL Z30 (tm rfl) (tm rfl) rfl rfl (.inl rfl) ((oN _ _ aB).trans (oS _ _ _)) (lB rfl)) ?_);rintro _ _ ⟨rfl,hH⟩;obtain rfl:=hH.symm;try first|rw[sS]|rw[sU aB]
  iterate 5 refine AX ?_
  refine .p rfl (zC U112 rfl Z4 (tm rfl)) ?_;iterate 2 refine AX ?_
  refine Ret.go' .nil _ (hRa _) ?_;refine⟨(afW K1 tf).live t38,bs1,c1,pad1,.own t38,hK1.froms hf38,hc1,hcm1,hpad1,?_⟩;unfold rdR bdB;simp only[aO,gN];rfl
 refine XTwo.s rfl rfl (zM G3 (tm rfl) ((oN _ _ aB).trans (oS _ _ _)) rfl) ?_;rintro _ _ ⟨rfl,hH⟩;obtain rfl:=hH.symm;refine APlan.f rfl rfl (λ_=>yJ U30 Z3 V3 rfl (tm rfl) (.inl rfl) ⟨rfl,rfl⟩) ?_;refine .s rfl rfl (zM G30 (tm rfl) ((oN _ _ aB).trans (oS _ _ _)) rfl) ?_;rintro _ _ ⟨rfl,hH⟩;obtain rfl:=hH.symm;refine .s rfl rfl (agF st.loc (tm rfl) (tm rfl) (RoomK.room hK1.rf rfl) aA) ?_;rintro _ _ ⟨t38,hf38,rfl,hH⟩;obtain rfl:=hH;rw[ahM,ahM,Heap.live_one,Heap.live_one];refine AX ?_;refine .p rfl rfl (zC U112 rfl Z30 (tm rfl)) (.s0 rfl (zL Z30 (tm rfl) (tm rfl) rfl rfl (.inl rfl) ((oN _ _ aB).trans (oS _ _ _)) (lB rfl)) ?_);rintro _ _ ⟨rfl,hH⟩;obtain rfl:=hH.symm;try first|rw[sS]|rw[sU aB]
 iterate 5 refine AX ?_
 refine .p rfl (zC U112 rfl Z4 (tm rfl)) ?_;iterate 2 refine AX ?_
 refine Ret.go' .nil _ (hRa _) ?_;refine⟨(afW K1 tf).live t38,bs1,c1,pad1,.own t38,hK1.froms hf38,hc1,hcm1,hpad1,?_⟩;unfold rdR bdB;simp only[aO,gN];rfl
theorem axS(K:Heap)(s:List UInt8)(br:Nat)(hbr:K.objs br=none)(H:Heap)(hH:H=K.set br (rdI s)):ACall prog 60 [.ptr (some ⟨br,0,none⟩)] H (λ_ H'=>∃K' bs' c' pad' tf',RdK K K' br bs' .full tf'∧1≤c'∧c'≤maxLen∧pad'.length=3*(c'-1)∧H'=RH s rd0 K' br bs' c' [] pad' .full tf'):=by
 subst hH;unfold RH;refine ACall.of_body func60 rfl ntmps60 results60 rfl ?_;iterate 5 refine AX ?_
 refine .p rfl (zC U112 rfl Z24 (tm rfl)) (.p rfl (zC U24 rfl Z22 (tm rfl)) ?_);refine AX ?_;refine .p rfl (afU U22 (tm rfl)) ?_;iterate 3 refine AX ?_
 refine AWP.cx rfl (λhc8=>?_) (λhc8=>?_)
 ·simp at hc8
 iterate 7 refine AX ?_
 refine .p rfl (zC U112 rfl Z24 (tm rfl)) (.p rfl (zC U24 rfl Z22 (tm rfl)) ?_);refine AX ?_;refine .p rfl (yY [(0,1),(1,1),(2,1)] U52 V52 (zr52) rfl (pl52 _ U52) .nil rfl) (.e rfl (yJ U22 Z52 V52 rfl (tm rfl) (.inr ⟨_,rfl⟩) ⟨rfl,rfl⟩) (.s rfl (baF hbr (tm rfl) (tm rfl)) ?_));rintro _ _ ⟨bs1,c1,pad1,rfl,hK1,hc1,hcm1,hpad1,hH⟩;obtain rfl:=hH;have hne1:=hK1.ne;have hne21:=hK1.ne.symm;refine AX ?_;refine .p rfl (zC U112 rfl Z24 (tm rfl)) (.p rfl (zC U24 rfl Z22 (tm rfl)) (.e0 (zL Z22 (tm rfl) (tm rfl) rfl rfl (.inl rfl) ((oN _ _ aB).trans (oS _ _ _)) (lB rfl)) ?_));try first|rw[sS]|rw[sU aB]
 iterate 3 refine AX ?_
 refine AWP.draw2 [(0,true),(1,true),(2,true),(3,true),(5,true),(6,true),(7,true)] 4 8 [(8,false),(9,true),(10,false),(11,true),(12,true),(13,false)] [(9,true),(4,false),(10,false),(11,true),(12,true),(13,false)] rfl aE ?_;iterate 3 refine AX ?_
 refine .p rfl rfl (zC U112 rfl Z30 (tm rfl)) ?_;iterate 2 refine AX ?_
 refine .p rfl rfl (zC U112 rfl Z3 (tm rfl)) ?_;refine AX ?_;refine⟨?_,?_⟩
 ·refine XTwo.s rfl rfl (zM G30 (tm rfl) ((oN _ _ aB).trans (oS _ _ _)) rfl) ?_;rintro _ _ ⟨rfl,hH⟩;obtain rfl:=hH.symm;refine .s rfl rfl (zM G3 (tm rfl) ((oN _ _ aB).trans (oS _ _ _)) rfl) ?_;rintro _ _ ⟨rfl,hH⟩;obtain rfl:=hH.symm;refine APlan.f rfl rfl (λ_=>yJ U30 Z3 V3 rfl (tm rfl) (.inl rfl) ⟨rfl,rfl⟩) ?_;refine .s rfl rfl (agF 0 (l:=[]) (tl:=.full) (tm rfl) (tm rfl) .full aC) ?_;rintro _ _ ⟨t38,hf38,rfl,hH⟩;obtain rfl:=hH;rw[Heap.live_one,Heap.live_one];refine AX ?_;refine .p rfl rfl (zC U112 rfl Z30 (tm rfl)) (.s0 rfl (zL Z30 (tm rfl) (tm rfl) rfl rfl (.inl rfl) ((oN _ _ aB).trans (oS _ _ _)) (lB rfl)) ?_);rintro _ _ ⟨rfl,hH⟩;obtain rfl:=hH.symm;try first|rw[sS]|rw[sU aB]
  iterate 5 refine AX ?_
  refine .p rfl (zC U112 rfl Z4 (tm rfl)) ?_;iterate 2 refine AX ?_
  refine Ret.go' .nil _ (hRa _) ?_;exact⟨(afW K .full).live t38,bs1,c1,pad1,.own t38,hK1.froms hf38,hc1,hcm1,hpad1,rfl⟩
 refine XTwo.s rfl rfl (zM G3 (tm rfl) ((oN _ _ aB).trans (oS _ _ _)) rfl) ?_;rintro _ _ ⟨rfl,hH⟩;obtain rfl:=hH.symm;refine APlan.f rfl rfl (λ_=>yJ U30 Z3 V3 rfl (tm rfl) (.inl rfl) ⟨rfl,rfl⟩) ?_;refine .s rfl rfl (zM G30 (tm rfl) ((oN _ _ aB).trans (oS _ _ _)) rfl) ?_;rintro _ _ ⟨rfl,hH⟩;obtain rfl:=hH.symm;refine .s rfl rfl (agF 0 (l:=[]) (tl:=.full) (tm rfl) (tm rfl) .full aC) ?_;rintro _ _ ⟨t38,hf38,rfl,hH⟩;obtain rfl:=hH;rw[Heap.live_one,Heap.live_one];refine AX ?_;refine .p rfl rfl (zC U112 rfl Z30 (tm rfl)) (.s0 rfl (zL Z30 (tm rfl) (tm rfl) rfl rfl (.inl rfl) ((oN _ _ aB).trans (oS _ _ _)) (lB rfl)) ?_);rintro _ _ ⟨rfl,hH⟩;obtain rfl:=hH.symm;try first|rw[sS]|rw[sU aB]
 iterate 5 refine AX ?_
 refine .p rfl (zC U112 rfl Z4 (tm rfl)) ?_;iterate 2 refine AX ?_
 refine Ret.go' .nil _ (hRa _) ?_;exact⟨(afW K .full).live t38,bs1,c1,pad1,.own t38,hK1.froms hf38,hc1,hcm1,hpad1,rfl⟩
theorem baT(H0 K:Heap)(s:List UInt8)(st:RdN)(br bs c:Nat)(pre pad:List AV)(tl tf:Tail)(hK:RdK H0 K br bs tl tf)(hpre:pre.length=3*st.ini.length)(hini:st.ini.length≤3)(ch:UInt8)(i:Nat)(st2:RdN)(ho:avU s ch i st=some st2)(hloc:st.loc=i+1)(hi:i<s.length)(hsl:s.length≤1000)(hch:s.getD i 0=ch)(hit:st.items≤100)(hci:st.cur.items.length≤100)(H:Heap)(hH:H=RH s st K br bs c pre pad tl tf):ACall prog 140 [.ptr (some ⟨br,0,none⟩),.int .u8 (ch.toNat:Int),.int .i64 (i:Int)] H (λ_ H'=>∃K' tl',RdK H0 K' br bs tl' tf∧H'=RH s st2 K' br bs c pre pad tl' tf):=by
 subst hH;unfold RH;have hne:=hK.ne;have hne2:=hK.ne.symm;unfold avU at ho;have hsub:(s.take (st.loc:Int).toNat).drop (i:Int).toNat=[ch]:=by
  rw[show(st.loc:Int).toNat=i+1 by omega,show(i:Int).toNat=i from rfl,arX hi,hch]
 refine ACall.of_body func140 rfl ntmps140 results140 rfl ?_;iterate 4 refine AX ?_
 refine .cl rfl C135 (.cons (zO rfl) (evs1 rfl)) (amZ [32,45,43,40,41,58] ch _) ?_;iterate 3 refine AX ?_
 refine AWP.cx rfl (λhc10=>?_) (λhc10=>?_)
 ·rw[aN (show inB [32,45,43,40,41,58] ch=true from aU aA)]at ho;obtain⟨h100,rfl⟩:=acD ho;refine AX ?_;refine AWP.drawI (λH2=>∃q:List AV,H2.objs br=some (.box 112 (.str s::.int .i64 ((st.loc:Int))::q))) [(0,true),(1,true),(2,true),(3,true),(4,true),(5,true),(6,true),(7,true),(8,true),(9,true),(10,true),(11,true),(12,false)] (by exact⟨_,(oN _ _ hne).trans (oS _ _ _)⟩) rfl aE ?_;iterate 3 refine AX ?_
  refine APlanI.p rfl rfl (zC U112 rfl Z9 (tm rfl)) ?_;refine APlanI.f rfl rfl (λ_ hI=>zM G9 (tm rfl) (hI.choose_spec) rfl) ?_;iterate 3 refine AX ?_
  refine APlanI.p rfl rfl (zC U112 rfl Z3 (tm rfl)) ?_;refine APlanI.f rfl rfl (λ_ hI=>zM G3 (tm rfl) (hI.choose_spec) rfl) ?_;refine APlanI.p rfl rfl (.say (b:=.str [ch]) (congrArg AV.str hsub) (aaJ U9 (tm rfl) (tm rfl) (tm rfl) aA aA aA)) ?_;refine AX ?_;refine APlanI.s rfl rfl (zB C137 (.cons (tm rfl) (.cons zJ (evs2 rfl rfl))) (afD H0 K s (st) br bs c pre pad tl tf hK hpre hini (1) ([ch]) _ hit h100 hci _ rfl)) ?_;rintro _ _ ⟨K1,tl1,hK1,hH⟩;obtain rfl:=hH;unfold RH;refine⟨by exact⟨_,(oN _ _ hne).trans (oS _ _ _)⟩,?_⟩;iterate 4 refine AX ?_
  refine Ret.go .nil _ (hRa _) ?_;exact⟨K1,tl1,hK1,rfl⟩
 rw[aM (show¬inB [32,45,43,40,41,58] ch=true from λz=>absurd (of_decide_eq_true z) aA)]at ho;iterate 6 refine AX ?_
 refine .cl rfl call216 (evs1 rfl) (axM ch _) ?_;iterate 9 refine AX ?_
 refine AWP.cx rfl (λhc27=>?_) (λhc27=>?_)
 ·rw[aN (show 0<alE ch by omega)]at ho;obtain⟨h100,rfl⟩:=acD ho;iterate 5 refine AX ?_
  refine .s rfl (zB C137 (.cons (tm rfl) (.cons (tm rfl) (.cons (zO rfl) (evs1 rfl)))) (afD H0 K s (st) br bs c pre pad tl tf hK hpre hini (alE ch) ([]) _ hit h100 hci _ rfl)) ?_;rintro _ _ ⟨K1,tl1,hK1,hH⟩;obtain rfl:=hH;unfold RH;iterate 4 refine AX ?_
  refine Ret.go .nil _ (hRa _) ?_;exact⟨K1,tl1,hK1,rfl⟩
 rw[aM (show¬0<alE ch by omega)]at ho;iterate 7 refine AX ?_
 refine .p rfl (zC U112 rfl Z9 (tm rfl)) ?_;iterate 9 refine AX ?_
 refine .cl rfl call182 (.cons (tm rfl) (.cons (zO rfl) .nil)) (hasPreA (s.drop i) [71,101,110,101,114,97,108] _) ?_;iterate 2 refine AX ?_
 refine AWP.cx rfl (λhc39=>?_) (λhc39=>?_)
 ·rw[aN (show Lib.hasPrefix (s.drop i) [71,101,110,101,114,97,108]=true from hc39)]at ho;obtain⟨h100,rfl⟩:=acD ho;iterate 6 refine AX ?_
  refine .p rfl (zC U112 rfl Z3 (tm rfl)) (.e0 (zL Z3 (tm rfl) (tm rfl) rfl rfl (.inl rfl) ((oN _ _ hne).trans (oS _ _ _)) (lB rfl)) ?_);try first|rw[sS]|rw[sU aB]
  iterate 6 refine AX ?_
  refine .s rfl (zB C137 (.cons (tm rfl) (.cons zJ (.cons (zO rfl) (evs1 rfl)))) (afD H0 K s (st.to (i+7)) br bs c pre pad tl tf hK hpre hini (7) ([]) _ hit h100 hci _ rfl)) ?_;rintro _ _ ⟨K1,tl1,hK1,hH⟩;obtain rfl:=hH;unfold RH;iterate 4 refine AX ?_
  refine Ret.go .nil _ (hRa _) ?_;exact⟨K1,tl1,hK1,rfl⟩
 rw[aM (show¬Lib.hasPrefix (s.drop i) [71,101,110,101,114,97,108]=true from λz=>by rw[show Lib.hasPrefix (s.drop i) [71,101,110,101,114,97,108]=false from hc39]at z;cases z)]at ho;obtain⟨h69,hnx⟩:ch=69∧ayI s st.loc [43,45]=true:=by
  split at ho
  ·assumption
  cases ho
 rw[aN ⟨h69,hnx⟩]at ho;obtain⟨h100,rfl⟩:=acD ho;subst h69;unfold ayI inB at hnx;simp only[bN,aT]at hnx;obtain⟨hn1,hn2⟩:=hnx;have g64:decide ((st.loc:Int)<(s.length:Int))=true:=aU aA;have g77:decide (0≤Lib.indexByte [43,45] (s.getD st.loc 0))=true:=aU hn2;have hsub2:(s.take ((st.loc:Int)+1).toNat).drop ((i:Int)+1).toNat=[s.getD st.loc 0]:=by
  rw[show((st.loc:Int)+1).toNat=st.loc+1 by omega,show((i:Int)+1).toNat=st.loc by omega,arX hn1]
 iterate 4 refine AX ?_
 refine AWP.drawI (λH2=>∃q:List AV,H2.objs br=some (.box 112 (.str s::.int .i64 ((st.loc:Int))::q))) [(0,true),(1,true),(2,true),(3,true),(4,true),(5,true),(6,true),(7,true),(8,true),(9,true),(10,true),(11,true),(12,true),(13,true),(14,true),(15,true),(16,true),(17,true),(18,true),(19,true),(20,true),(21,true),(22,true),(23,true),(24,true),(25,true),(26,true),(27,true),(28,true),(29,true),(30,true)] (by exact⟨_,(oN _ _ hne).trans (oS _ _ _)⟩) rfl aE ?_;iterate 9 refine AX ?_
 refine APlanI.gp rfl rfl rfl rfl aD (zC U112 rfl Z3 (tm rfl)) ?_;refine APlanI.gf rfl rfl rfl rfl aD (λ_ hI=>zM G3 (tm rfl) (hI.choose_spec) rfl) ?_;iterate 2 refine AX ?_
 refine APlanI.gp rfl rfl rfl rfl aD (zC U112 rfl Z9 (tm rfl)) ?_;refine APlanI.gf rfl rfl rfl rfl aD (λ_ hI=>zM G9 (tm rfl) (hI.choose_spec) rfl) ?_;iterate 6 refine AX ?_
 refine APlanI.gp rfl rfl rfl rfl aB (zC U112 rfl Z9 (tm rfl)) ?_;refine APlanI.gf rfl rfl rfl rfl aB (λ_ hI=>zM G9 (tm rfl) (hI.choose_spec) rfl) ?_;iterate 2 refine AX ?_
 refine APlanI.gp rfl rfl rfl rfl aB (zC U112 rfl Z3 (tm rfl)) ?_;refine APlanI.gf rfl rfl rfl rfl aB (λ_ hI=>zM G3 (tm rfl) (hI.choose_spec) rfl) ?_;refine AX ?_;refine APlanI.gf rfl rfl rfl rfl aB (λ_ hI=>zB C135 (.cons (zO rfl) (evs1 rfl)) (amZ [43,45] (s.getD st.loc 0) _)) ?_;iterate 4 refine AX ?_
 refine AWP.cond_true (tm rfl) (by exact g77) ?_;iterate 4 refine AX ?_
 refine .p rfl (zC U112 rfl Z3 (tm rfl)) ?_;iterate 3 refine AX ?_
 refine .p rfl (zC U112 rfl Z3 (tm rfl)) (.e0 (zL Z3 (tm rfl) (tm rfl) rfl rfl (.inl rfl) ((oN _ _ hne).trans (oS _ _ _)) (lB rfl)) ?_);try first|rw[sS]|rw[sU aB]
 iterate 3 refine AX ?_
 refine AWP.drawI (λH2=>∃q:List AV,H2.objs br=some (.box 112 (.str s::.int .i64 ((st.loc:Int)+1)::q))) [(0,true),(1,true),(2,true),(3,true),(4,true),(5,true),(6,true),(7,true),(8,true),(9,true),(10,true),(11,true),(12,true),(13,false)] (by exact⟨_,(oN _ _ hne).trans (oS _ _ _)⟩) rfl aE ?_;iterate 3 refine AX ?_
 refine APlanI.p rfl rfl (zC U112 rfl Z9 (tm rfl)) ?_;refine APlanI.f rfl rfl (λ_ hI=>zM G9 (tm rfl) (hI.choose_spec) rfl) ?_;iterate 4 refine AX ?_
 refine APlanI.p rfl rfl (zC U112 rfl Z3 (tm rfl)) ?_;refine APlanI.f rfl rfl (λ_ hI=>zM G3 (tm rfl) (hI.choose_spec) rfl) ?_;refine APlanI.p rfl rfl (.say (b:=.str [s.getD st.loc 0]) (congrArg AV.str hsub2) (aaJ U9 (tm rfl) (tm rfl) (tm rfl) aA aA aA)) ?_;refine AX ?_;refine APlanI.s rfl rfl (zB C137 (.cons (tm rfl) (.cons zJ (evs2 rfl rfl))) (afD H0 K s (st.to (st.loc+1)) br bs c pre pad tl tf hK hpre hini (5) ([s.getD st.loc 0]) _ hit h100 hci _ rfl)) ?_;rintro _ _ ⟨K1,tl1,hK1,hH⟩;obtain rfl:=hH;unfold RH;refine⟨by exact⟨_,(oN _ _ hne).trans (oS _ _ _)⟩,?_⟩;iterate 4 refine AX ?_
 refine Ret.go .nil _ (hRa _) ?_;exact⟨K1,tl1,hK1,rfl⟩
end
section
open Go Go.RowKit
set_option maxRecDepth 100000
def WK(cs cs':List AV):Prop:=cs'.length=cs.length∧∀(i:Nat) c c',cs[i]?=some c→cs'[i]?=some c'→Weak c c'
theorem WK.nil:WK [] []:=⟨rfl,λi c c' h _=>by simp at h⟩
theorem WK.append{a b a' b':List AV}(h:WK a a')(k:WK b b'):WK (a++b) (a'++b'):=by
 refine⟨by rw[aO,aO,h.1,k.1],λi c c' hc hc'=>?_⟩;rw[eJ]at hc hc';rw[h.1]at hc';split at hc
 ·rename_i q;rw[aN q]at hc';exact h.2 i c c' hc hc'
 rename_i q;rw[aM q]at hc';exact k.2 _ c c' hc hc'
theorem WK.sec(s:SecN)(tl:Tail):WK (s.cs tl) (s.cs .shared):=by
 refine⟨rfl,λi c c' hc hc'=>?_⟩
 match i,hc,hc' with
 |0,hc,hc'=>cases hc;cases hc';exact .slice _ _ _
 |1,hc,hc'=>cases hc;cases hc';exact .refl _
 |2,hc,hc'=>cases hc;cases hc';exact .refl _
def RdS(H0:Heap)(s:List UInt8)(st:RdN)(br:Nat)(H:Heap):Prop:=∃K bs c pre pad tl tf,RdK H0 K br bs tl tf∧st.ini.length+1≤c∧c≤maxLen∧pad.length=3*(c-(st.ini.length+1))∧pre.length=3*st.ini.length∧WK pre (st.ini.flatMap λq=>q.cs .shared)∧H=RH s st K br bs c pre pad tl tf
theorem byteq{a b:UInt8}:((a.toNat:Nat):Int)=((b.toNat:Nat):Int)↔a=b:=⟨λh=>fK.1 aA,λh=>by rw[h]⟩
theorem bpH{s:List UInt8}(h:anG s i st=some st2):st.free=true:=by
 unfold anG at h;split at h
 ·cases h
 rename_i q;simpa using q
theorem bwJ{s:List UInt8}(h:anG s i st=some st2):st2.ini=st.ini:=by
 unfold anG at h;split at h
 ·cases h
 split at h
 ·split at h
  ·cases h
  cases h;rfl
 cases h;rfl
theorem btF{s:List UInt8}{ch:UInt8}(h:avU s ch i st=some st2):st2.ini=st.ini:=by
 unfold avU at h;split at h
 ·obtain⟨_,rfl⟩:=acD h;rfl
 split at h
 ·obtain⟨_,rfl⟩:=acD h;rfl
 split at h
 ·obtain⟨_,rfl⟩:=acD h;rfl
 split at h
 ·obtain⟨_,rfl⟩:=acD h;rfl
 cases h
def ckC(st:RdN):RdN:={st.to (st.loc+1)with free:=false}
def ckB(s:List UInt8)(st:RdN):RdN:=ceC 1 [s.getD (st.loc+1) 0] {st.to (st.loc+1+1)with free:=false}
def ckA(H0:Heap)(s:List UInt8)(st:RdN)(br bs c:Nat)(pre pad:List AV)(tf:Tail):Nat→Env→Heap→Prop:=λk env H1=>∃st3 K3 tl3,RdK H0 K3 br bs tl3 tf∧((k=1∧st3=ckC st)∨(k=0∧st3=ckB s st))∧env=[(0,.ptr (some ⟨br,0,none⟩)),(2,.int .i64 (st.loc:Int)),(5,.int .i64 ((st.loc:Int)+1+1))]∧H1=RH s st3 K3 br bs c pre pad tl3 tf
theorem bmB(H0:Heap)(s:List UInt8)(st:RdN)(br:Nat)(st2:RdN)(ho:cjH s st=some st2)(hok:st.ok s)(hlt:st.loc<s.length)(hsl:s.length≤1000)(H:Heap)(hS:RdS H0 s st br H):ACall prog 61 [.ptr (some ⟨br,0,none⟩)] H (λ_ H'=>RdS H0 s st2 br H'):=by
 obtain⟨K,bs,c,pre,pad,tl,tf,hK,hc,hcm,hpad,hpre,hwk,rfl⟩:=hS;unfold RH;have hne:=hK.ne;have hne2:=hK.ne.symm;have hini:=hok.ini;have hit:=hok.items;have hci:st.cur.items.length≤100:=bC hok.cur hok.items;have hfl:st.frm.length≤10:=by have:=hok.frm;omega
 unfold cjH at ho;refine ACall.of_body func61 rfl ntmps61 results61 rfl ?_;iterate 4 refine AX ?_
 refine .p rfl (zC U112 rfl Z3 (tm rfl)) ?_;iterate 8 refine AX ?_
 refine .p rfl (zC U112 rfl Z9 (tm rfl)) ?_;iterate 10 refine AX ?_
 refine .p rfl (zC U112 rfl Z3 (tm rfl)) ?_;iterate 3 refine AX ?_
 refine .p rfl (zC U112 rfl Z3 (tm rfl)) (.e0 (zL Z3 (tm rfl) (tm rfl) rfl rfl (.inl rfl) ((oN _ _ hne).trans (oS _ _ _)) (lB rfl)) ?_);try first|rw[sS]|rw[sU aB]
 iterate 14 refine AX ?_
 refine AWP.cx rfl (λhc29=>?_) (λhc29=>?_)
 ·have q29:(s.getD st.loc 0)=59:=byteq.1 aB;rw[aN q29]at ho;obtain⟨h3,rfl⟩:=awR ho;iterate 2 refine AX ?_
  refine .s rfl (zB call60 (evs1 rfl) (bbD H0 K s (st.to (st.loc+1)) br bs c pre pad tl tf hK hpre hini h3 hc hcm hpad hfl _ rfl)) ?_;rintro _ _ ⟨K1,bs1,c1,pad1,tf1,hK1,hc1,hcm1,hpad1,hH⟩;obtain rfl:=hH;iterate 2 refine AX ?_
  refine Ret.go' .nil _ (hRa _) ?_;refine⟨K1,bs1,c1,_,pad1,_,tf1,hK1,?_,hcm1,?_,?_,?_,rfl⟩
  ·show(st.ini++[st.cur]).length+1≤c1;simp;exact hc1
  ·show pad1.length=3*(c1-((st.ini++[st.cur]).length+1));rw[aO];exact hpad1
  ·show(pre++st.cur.cs tl).length=3*(st.ini++[st.cur]).length;rw[aO,aO];show pre.length+3=3*(st.ini.length+1);omega
  show WK (pre++st.cur.cs tl) ((st.ini++[st.cur]).flatMap λq=>q.cs .shared);rw[gG];refine hwk.append ?_;rw[dY,List.flatMap_nil,bU];exact WK.sec _ _
 have q29:¬(s.getD st.loc 0)=59:=λz=>hc29 (byteq.2 z);rw[aM q29]at ho;iterate 6 refine AX ?_
 refine AWP.cx rfl (λhc33=>?_) (λhc33=>?_)
 ·have q33:(s.getD st.loc 0)=34:=byteq.1 aB;rw[aN q33]at ho;unfold bsQ at ho;obtain⟨⟨hq1,hq2,hq3⟩,ho2⟩:(st.loc+1+1<s.length∧(s.getD (st.loc+1) 0).toNat<128∧Lib.indexByte (s.drop (st.loc+1)) 34=1)∧(bsS 1 [s.getD (st.loc+1) 0] {st.to (st.loc+1+1)with free:=false}).map (λr=>r.to (r.loc+1))=some st2:=by
   split at ho
   ·rename_i q;exact⟨q,ho⟩
   cases ho
  obtain⟨st9,hst9,rfl⟩:=gL.1 ho2;obtain⟨h100,rfl⟩:=acD hst9;have hsub3:(s.take ((st.loc:Int)+1+1).toNat).drop ((st.loc:Int)+1).toNat=[s.getD (st.loc+1) 0]:=by
   rw[show((st.loc:Int)+1+1).toNat=st.loc+1+1 by omega,show((st.loc:Int)+1).toNat=st.loc+1 by omega,arX (show st.loc+1<s.length by omega)]
  have hq1:st.loc+1<s.length:=by omega
  refine AX ?_;refine AWP.drawI (λH2=>∃q:List AV,H2.objs br=some (.box 112 (.str s::.int .i64 ((st.loc:Int)+1)::q))) [(0,true),(1,true),(2,true),(3,true),(4,true),(5,true),(6,true),(7,true),(8,true),(9,true),(10,true)] (by exact⟨_,(oN _ _ hne).trans (oS _ _ _)⟩) rfl aE ?_;iterate 2 refine AX ?_
  refine APlanI.p rfl rfl (zC U112 rfl Z9 (tm rfl)) ?_;refine APlanI.f rfl rfl (λ_ hI=>zM G9 (tm rfl) (hI.choose_spec) rfl) ?_;iterate 2 refine AX ?_
  refine APlanI.p rfl rfl (zC U112 rfl Z3 (tm rfl)) ?_;refine APlanI.f rfl rfl (λ_ hI=>zM G3 (tm rfl) (hI.choose_spec) rfl) ?_;refine AX ?_;refine APlanI.f rfl rfl (λ_ hI=>zB C135 (.cons (tm rfl) (.cons zJ .nil)) (amZ (s.drop (st.loc+1)) 34 _)) ?_;iterate 5 refine AX ?_
  rw[hq3];refine AWP.drawI (λH2=>∃q:List AV,H2.objs br=some (.box 112 (.str s::.int .i64 ((st.loc:Int)+1)::q))) [(0,true),(1,true),(2,true),(3,true),(4,true),(5,true),(6,true),(7,true),(8,true),(9,true),(10,true),(11,true),(12,true),(13,true),(14,true),(15,true),(16,true),(17,true),(18,true),(19,true),(20,true)] (by exact⟨_,(oN _ _ hne).trans (oS _ _ _)⟩) rfl aE ?_;iterate 5 refine AX ?_
  refine APlanI.gp rfl rfl rfl rfl aD (zC U112 rfl Z9 (tm rfl)) ?_;refine APlanI.gf rfl rfl rfl rfl aD (λ_ hI=>zM G9 (tm rfl) (hI.choose_spec) rfl) ?_;iterate 2 refine AX ?_
  refine APlanI.gp rfl rfl rfl rfl aD (zC U112 rfl Z3 (tm rfl)) ?_;refine APlanI.gf rfl rfl rfl rfl aD (λ_ hI=>zM G3 (tm rfl) (hI.choose_spec) rfl) ?_;iterate 2 refine AX ?_
  refine APlanI.gp rfl rfl rfl rfl aD (zC U112 rfl Z3 (tm rfl)) ?_;refine APlanI.gf rfl rfl rfl rfl aD (λ_ hI=>zM G3 (tm rfl) (hI.choose_spec) rfl) ?_;iterate 2 refine AX ?_
  refine APlanI.gp rfl rfl rfl rfl aD (.say (b:=.str [s.getD (st.loc+1) 0]) (congrArg AV.str hsub3) (aaJ U9 (tm rfl) (tm rfl) (tm rfl) aA aA aA)) ?_;refine APlanI.gf rfl rfl rfl rfl aD (λ_ hI=>zB call136 (evs1 rfl) (azU (s.getD (st.loc+1) 0) hq2 _)) ?_;iterate 4 refine AX ?_
  refine AWP.cond_false (tm rfl) aD ?_;iterate 6 refine AX ?_
  refine .p rfl (zC U112 rfl Z4 (tm rfl)) ?_;iterate 8 refine AX ?_
  refine .p rfl (zC U112 rfl Z3 (tm rfl)) ?_;iterate 7 refine AX ?_
  refine AWP.loopW (ckA H0 s st br bs c pre pad tf) (1) ⟨ckC st,K,tl,hK,.inl ⟨rfl,rfl⟩,rfl,rfl⟩ sX (hRa _) ?_;rintro k _ _ ⟨st3,K3,tl3,hK3,hst,rfl,rfl⟩;unfold RH;have hne:=hK3.ne;have hne2:=hK3.ne.symm;iterate 5 refine AX ?_
  refine .p rfl (zC U112 rfl Z3 (tm rfl)) ?_;iterate 5 refine AX ?_
  refine AWP.cx rfl (λhc83=>?_) (λhc83=>?_)
  ·obtain⟨rfl,rfl⟩:k=1∧st3=ckC st:=by
    rcases hst with q|q
    ·exact q
    rw[q.2]at hc83;have e9:((ckB s st).loc:Int)=(st.loc:Int)+1+1:=rfl;omega
   iterate 7 refine AX ?_
   refine .p rfl (zC U112 rfl Z3 (tm rfl)) ?_;iterate 8 refine AX ?_
   refine .s rfl (zB call138 (evs2 rfl rfl) (beK H0 K3 s (ckC st) br bs c pre pad tl3 tf hK3 hpre hini _ hq1 hsl hq2 _ rfl)) ?_;rintro _ _ ⟨rfl,hH⟩;obtain rfl:=hH;refine AX ?_;refine .s rfl (zB C137 (.cons (tm rfl) (.cons zJ (evs2 rfl rfl))) (afD H0 K3 s {st.to (st.loc+1+1)with free:=false} br bs c pre pad tl3 tf hK3 hpre hini 1 [s.getD (st.loc+1) 0] _ hit h100 hci _ rfl)) ?_;rintro _ _ ⟨K1,tl1,hK1,hH⟩;obtain rfl:=hH;iterate 3 refine AX ?_
   refine Round.mk (J:=ckA H0 s st br bs c pre pad tf) ⟨ckB s st,K1,tl1,hK1,.inr ⟨rfl,rfl⟩,rfl,rfl⟩ sX (hRa _) aA
  obtain⟨_,rfl⟩:k=0∧st3=ckB s st:=by
   rcases hst with q|q
   ·rw[q.2]at hc83;have e9:((ckC st).loc:Int)=(st.loc:Int)+1:=rfl;omega
   exact q
  have e9:((ckB s st).loc:Int)=(st.loc:Int)+1+1:=rfl;iterate 8 refine AX ?_
  refine .p rfl (zC U112 rfl Z3 (tm rfl)) ?_;iterate 3 refine AX ?_
  refine .p rfl (zC U112 rfl Z3 (tm rfl)) (.e0 (zL Z3 (tm rfl) (tm rfl) rfl rfl (.inl rfl) ((oN _ _ hne).trans (oS _ _ _)) (lB rfl)) ?_);try first|rw[sS]|rw[sU aB]
  iterate 2 refine AX ?_
  refine Ret.go' .nil _ (hRa _) ?_;exact⟨K3,bs,c,pre,pad,tl3,tf,hK3,hc,hcm,hpad,hpre,hwk,rfl⟩
 have q33:¬(s.getD st.loc 0)=34:=λz=>hc33 (byteq.2 z);rw[aM q33]at ho;iterate 6 refine AX ?_
 refine AWP.cx rfl (λhc101=>?_) (λhc101=>?_)
 ·rw[aN (.inl (byteq.1 aB))]at ho;cases ho
 have q101:¬(s.getD st.loc 0)=92:=λz=>hc101 (byteq.2 z);iterate 6 refine AX ?_
 refine AWP.cx rfl (λhc109=>?_) (λhc109=>?_)
 ·rw[aN (.inr (byteq.1 aB))]at ho;cases ho
 have q109:¬(s.getD st.loc 0)=95:=λz=>hc109 (byteq.2 z);rw[aM (λz=>z.elim q101 q109)]at ho;iterate 6 refine AX ?_
 refine AWP.cx rfl (λhc117=>?_) (λhc117=>?_)
 ·have q117:(s.getD st.loc 0)=44:=byteq.1 aB;rw[aN q117]at ho;have hf1:1≤st.loc:=hok.free (bpH ho:(st.to (st.loc+1)).free=true);have hsc:0≤st.cur.scale∧st.cur.scale≤10000:=by have h1:=hok.low;have h2:=hok.high;omega
  have hini2:st2.ini=st.ini:=(bwJ ho:st2.ini=(st.to (st.loc+1)).ini);iterate 3 refine AX ?_
  refine .s rfl (zB call139 (evs2 rfl rfl) (bbC H0 K s (st.to (st.loc+1)) br bs c pre pad tl tf hK hpre hini st.loc st2 ho hf1 aA (by show st.loc+1≤s.length;omega) hsc hsl _ rfl)) ?_;rintro _ _ hH;obtain rfl:=hH;iterate 2 refine AX ?_
  refine Ret.go' .nil _ (hRa _) ?_;exact⟨K,bs,c,pre,pad,tl,tf,hK,by rw[hini2];exact hc,hcm,by rw[hini2];exact hpad,by rw[hini2];exact hpre,by rw[hini2];exact hwk,rfl⟩
 have q117:¬(s.getD st.loc 0)=44:=λz=>hc117 (byteq.2 z);rw[aM q117]at ho;refine AWP.seqToL [(122,.bool (decide ((s.getD st.loc 0)=48∨(s.getD st.loc 0)=35∨(s.getD st.loc 0)=63)))] [0,2,3] ?_ ?_
 ·iterate 6 refine AX ?_
  refine AWP.cx rfl (λhc122=>?_) (λhc122=>?_)
  ·have q48:(s.getD st.loc 0)=48:=byteq.1 hc122;refine AX ?_;exact⟨rfl,(zR rfl (by exact congrArg AV.bool ((aU hc122).trans (aU (.inl q48)).symm)) sX),rfl⟩
  have q48:¬(s.getD st.loc 0)=48:=λz=>hc122 (byteq.2 z);iterate 6 refine AX ?_
  refine AWP.cx rfl (λhc122=>?_) (λhc122=>?_)
  ·have q35:(s.getD st.loc 0)=35:=byteq.1 hc122;refine AX ?_;exact⟨rfl,(zR rfl (by exact congrArg AV.bool ((aU hc122).trans (aU (.inr (.inl q35))).symm)) sX),rfl⟩
  have q35:¬(s.getD st.loc 0)=35:=λz=>hc122 (byteq.2 z);iterate 4 refine AX ?_
  exact⟨rfl,(zR rfl (by exact congrArg AV.bool (aQ.2 ⟨λz=>.inr (.inr (byteq.1 z)),λz=>z.elim (λe=>absurd e q48) (λz=>z.elim (λe=>absurd e q35) (λe=>byteq.2 e))⟩)) sX),rfl⟩
 refine AWP.sub [(122,_),(0,_),(2,_),(3,_)] sX ?_;refine AWP.cx rfl (λhc122=>?_) (λhc122=>?_)
 ·have q9:(s.getD st.loc 0)=48∨(s.getD st.loc 0)=35∨(s.getD st.loc 0)=63:=hc122;rw[aN q9]at ho;obtain⟨h100,rfl⟩:=acD ho;have hsub:(s.take ((st.loc:Int)+1).toNat).drop (st.loc:Int).toNat=[(s.getD st.loc 0)]:=by
   rw[show((st.loc:Int)+1).toNat=st.loc+1 by omega,show(st.loc:Int).toNat=st.loc from rfl,arX hlt]
  refine AWP.drawI (λH2=>∃q:List AV,H2.objs br=some (.box 112 (.str s::.int .i64 ((st.loc:Int)+1)::q))) [(0,true),(1,true),(2,true),(3,true),(4,true),(5,true),(6,true),(7,true),(8,true),(9,true),(10,true),(11,true),(12,false)] (by exact⟨_,(oN _ _ hne).trans (oS _ _ _)⟩) rfl aE ?_;iterate 3 refine AX ?_
  refine APlanI.p rfl rfl (zC U112 rfl Z9 (tm rfl)) ?_;refine APlanI.f rfl rfl (λ_ hI=>zM G9 (tm rfl) (hI.choose_spec) rfl) ?_;iterate 3 refine AX ?_
  refine APlanI.p rfl rfl (zC U112 rfl Z3 (tm rfl)) ?_;refine APlanI.f rfl rfl (λ_ hI=>zM G3 (tm rfl) (hI.choose_spec) rfl) ?_;refine APlanI.p rfl rfl (.say (b:=.str [(s.getD st.loc 0)]) (congrArg AV.str hsub) (aaJ U9 (tm rfl) (tm rfl) (tm rfl) aA aA aA)) ?_;refine AX ?_;refine APlanI.s rfl rfl (zB C137 (.cons (tm rfl) (.cons zJ (evs2 rfl rfl))) (afD H0 K s (st.to (st.loc+1)) br bs c pre pad tl tf hK hpre hini (2) ([(s.getD st.loc 0)]) _ hit h100 hci _ rfl)) ?_;rintro _ _ ⟨K1,tl1,hK1,hH⟩;obtain rfl:=hH;unfold RH;refine⟨by exact⟨_,(oN _ _ hne).trans (oS _ _ _)⟩,?_⟩;iterate 2 refine AX ?_
  refine Ret.go' .nil _ (hRa _) ?_;exact⟨K1,bs,c,pre,pad,tl1,tf,hK1,hc,hcm,hpad,hpre,hwk,rfl⟩
 have q9:¬((s.getD st.loc 0)=48∨(s.getD st.loc 0)=35∨(s.getD st.loc 0)=63):=hc122;rw[aM q9]at ho;iterate 4 refine AX ?_
 refine .s rfl (zB call140 (evs3 rfl rfl rfl) (baT H0 K s (st.to (st.loc+1)) br bs c pre pad tl tf hK hpre hini (s.getD st.loc 0) st.loc st2 ho rfl hlt hsl rfl hit hci _ rfl)) ?_;rintro _ _ ⟨K1,tl1,hK1,hH⟩;obtain rfl:=hH;iterate 2 refine AX ?_
 refine Ret.go' .nil _ (hRa _) ?_;have hini2:st2.ini=st.ini:=(btF ho:st2.ini=(st.to (st.loc+1)).ini);exact⟨K1,bs,c,pre,pad,tl1,tf,hK1,by rw[hini2];exact hc,hcm,by rw[hini2];exact hpad,by rw[hini2];exact hpre,by rw[hini2];exact hwk,rfl⟩
end
section
open Go Go.RowKit
set_option maxRecDepth 100000
theorem bpP(w:World):(Instr.typeAssert Value.nilIface 20 114 true).run prog w= .ok (.tuple #[.agg #[.int .i64 0,.int .i64 0],.bool false]) w:=by
 have hu:∀w,(underlying 114).run prog w= .ok _ w:=λw=>run_underlying underlying114 w;have hz:=zeroValue114;simp[Instr.typeAssert,hu,hz]
theorem bfU(p q r:Option Addr)(w:World):CallsD prog 59 #[.pointer p,.pointer q,.pointer r] .returning w λe u' w'=>e= .returned (.tuple #[])∧u'= .returning∧w'=w.alloc (Obj.cells #[.int .i64 0,.int .i64 0] 114):=by
 refine callsD_of_wpS func59 rfl λc₀ cs hu=>?_;apply wpS_seq;apply wpS_region;simp[wpOpsS,go_sem,recoverD,hu,ntmps59,Exit.thenS,bpP];apply wpS_seq;apply wpS_region;simp[wpOpsS,go_sem,Exit.thenS];refine wpS_cond (t:=false) (by simp[Act.eval,Array.replicate]) ?_;simp only[dN,if_false];refine wpS_of_wp (wp_skip ?_);cases c₀
 simp_all[bodyPostS,results,results59]
theorem bnG(p q r:Option Addr)(H:Heap){R:AV→Heap→Prop}(hR:∀y,R y H):cfA prog 59 [.ptr p,.ptr q,.ptr r] H R:=by
 intro g vs w hvs hs;obtain⟨hlen,hrel⟩:=hvs
 match vs,hlen,hrel with
 | [a,b,c],_,hrel=>
  have h1:=hrel 0 _ a rfl rfl;have h2:=hrel 1 _ b rfl rfl;have h3:=hrel 2 _ c rfl rfl;cases h1;cases h2;cases h3
  refine(bfU p q r w).mono ?_;rintro e u' w' ⟨rfl,rfl,rfl⟩;have hcells:RelCells g [.int .i64 0,.int .i64 0] #[.int .i64 0,.int .i64 0]:=⟨rfl,λi c v hc hv=>by
    match i,hc,hv with
    |0,hc,hv=>cases hc;cases hv;exact .int _ _
    |1,hc,hv=>cases hc;cases hv;exact .int _ _⟩
  exact⟨rfl,_,rfl,g,.tuple [],H,G.le.refl g,.tuple [] #[] rfl (λi c v hc _=>by simp at hc),(hs.new_box 114 hcells).weaken (Heap.le_set hs.new_none _),hR _⟩
theorem cbV(h:A.objs b=none):(A.set b x).drop b=A:=by
 simp only[Heap.drop,Heap.set];cases A with
 |mk objs toks=>
  simp only[Heap.mk.injEq,and_true]
  funext k
  split
  ·rename_i e;subst e;exact h.symm
  rfl
theorem ayQ(h:H.le A)(hb:H.objs b=none):H.le (A.set b x):=
 ⟨λc y hc=>by rw[oN _ _ (by rintro rfl;rw[hb]at hc;cases hc)];exact h.objs c y hc,h.toks⟩
theorem ciC(l:List SecN):(l.map SecN.av).flatMap AV.cells=l.flatMap λq=>q.cs .shared:=by
 induction l with
 |nil=>rfl
 |cons s l ih=>rw[dX,dY,dY,ih];rfl
theorem AWP.parsed{n:Fr}{cd:Code}{Q:Exit→Env→Heap→Prop}{env:Env}{H0:Heap}{s:List UInt8}{br:Nat}(hS:RdS H0 s st br H)
  (h:∀K tf,H0.le K→K.objs br=none→AWP prog n cd Q env (K.set br (.box 112 [.str s,.int .i64 (st.loc:Int),bdM st.secs .shared,afG st.frm tf,.int .i64 (st.items:Int),.bool st.free]))):AWP prog n cd Q env H:=by
 obtain⟨K,bs,c,pre,pad,tl,tf,hK,hc,hcm,hpad,hpre,hwk,rfl⟩:=hS;unfold RH;have hw:WK (pre++(st.cur.cs tl++pad)) ((st.secs.map SecN.av).flatMap AV.cells++pad):=by
  rw[ciC];unfold RdN.secs;rw[gG,bK];refine hwk.append (WK.append ?_ ⟨rfl,λi c c' h h'=>?_⟩)
  ·rw[dY,List.flatMap_nil,bU];exact WK.sec _ _
  rw[h]at h';cases h';exact .refl _
 refine .rebox (oS _ _ _) (λg vs hr=>RelCells.weak hr hw.1 hw.2) ?_;rw[sS];have hl:(st.secs.map SecN.av).length=st.ini.length+1:=by rw[cE];unfold RdN.secs;rw[aO];rfl
 refine .frzC (bp:=br) (i:=2) (sz:=3) (c:=c) (oS _ _ _) (λx hx=>?_) (by rw[hl];exact hc) hcm ((oN _ _ hK.ne).trans (oS _ _ _)) hK.ne (by rw[hl];rfl) ?_
 ·obtain⟨q,_,rfl⟩:=fW.1 hx;exact⟨rfl,rfl⟩
 rw[cbV ((oN _ _ hK.ne.symm).trans hK.nbs),sS];exact h K tf hK.le hK.nbr
theorem byT{s:List UInt8}{k:Nat}{rf:RdN}(h:byU s k r=some rf)(hl:r.loc<s.length):∃r' k',k=k'+1∧cjH s r=some r'∧byU s k' r'=some rf:=by
 cases k with
 |zero=>cases h
 |succ k=>
  rw[byU,aN hl]at h;split at h
  ·rename_i r' e;exact⟨r',k,rfl,e,h⟩
  cases h
theorem cgI{s:List UInt8}{k:Nat}{rf:RdN}(h:byU s k r=some rf)(hl:¬r.loc<s.length):r=rf:=by
 cases k with
 |zero=>cases h
 |succ k=>rw[byU,aM hl]at h;exact Option.some.inj h
theorem bnF{s:List UInt8}{p:List SecN}(h:akW s=some p):s.length≤1000∧∃rf,byU s (s.length+1) rd0=some rf∧rf.secs=p∧azR p=false:=by
 unfold akW at h;split at h
 ·cases h
 split at h
 ·rename_i rf e
  split at h
  ·cases h
  rename_i q
  have hp:=Option.some.inj h;exact⟨by omega,rf,e,hp,by rw[←hp];simpa using q⟩
 cases h
theorem cjY(s:List UInt8):rd0.ok s:=⟨Nat.zero_le _,Nat.zero_le _,Nat.zero_le _,aZ _,(λq h=>by cases h),(λh=>by cases h),Int.le_refl _,Int.le_refl _,aZ _⟩
end
section
open Go Go.RowKit
set_option maxRecDepth 100000
theorem zr3:ZR 3 [.int .i64 0]:=ZRi V3
theorem zr24:ZR 24 [.slice 3 [] .full]:=ZRi zeroValue24
theorem pl24:PL 24 [(0,1)]:=PLi U24
theorem zr37:ZR 37 [.int .i64 0]:=ZRi zeroValue37
theorem cfC{a:Nat}{y z:AObj}(h1:a≠b)(h2:a≠c)(h3:b≠c):(((H.set a x).set b y).set c z).objs a=some x∧(((H.set a x).set b y).set c z).objs b=some y∧(((H.set a x).set b y).set c z).objs c=some z:=
 ⟨(oN _ _ h2).trans ((oN _ _ h1).trans (oS _ _ _)),(oN _ _ h3).trans (oS _ _ _),oS _ _ _⟩
theorem agT(h:(A.set b x).objs c=none):A.objs c=none:=by
 by_cases e:c=b
 ·subst e;rw[oS]at h;cases h
 rwa[oN _ _ e]at h
theorem bnO(h:(A.set b x).objs c=none):c≠b:=by
 rintro rfl;rw[oS]at h;cases h
theorem byO{s:List UInt8}(h:r.ok s):∀q,q∈r.secs→q.items.length≤1000:=by
 intro q hq;rcases cN.1 hq with hq|hq
 ·have:=h.secs q hq;omega
 have e:=eU.1 hq;subst e;have:=h.cur;have:=h.items;omega
theorem byP{s:List UInt8}(h:r.ok s):r.secs.length≤1000:=by
 have:=h.ini;unfold RdN.secs;rw[aO,gN];omega
def bkH(H0:Heap)(s:List UInt8)(rf:RdN)(b2 b3 b4 br:Nat):Nat→Env→Heap→Prop:=λk env H1=>∃st fuel,RdS H0 s st br H1∧st.ok s∧byU s fuel st=some rf∧env=[(0,.str s),(2,.ptr (some ⟨b2,0,none⟩)),(3,.ptr (some ⟨b3,0,none⟩)),(4,.ptr (some ⟨b4,0,none⟩)),(5,.ptr (some ⟨br,0,none⟩))]∧k=s.length-st.loc
theorem ajG(s:List UInt8)(p:List SecN)(hp:akW s=some p):Fn 23 [.str s] (.tuple [.agg [bdM p .shared],.int .i64 0,.int .i64 0]):=by
 intro H;obtain⟨hlen,rf,hrun,rfl,hwr⟩:=bnF hp;refine .of_bodyD func23 rfl ntmps23 results23 rfl ?_;refine AWPD.seq ?_;refine AX ?_;refine .al zr24 (λb2 hb2=>?_);refine .al zr37 (λb3 hb3=>?_);have hn2_3:=Heap.ne_of (oS _ _ _) hb3;refine .al zr3 (λb4 hb4=>?_);have hn2_4:=Heap.ne_of (oS _ _ _) hb4;have hn3_4:=Heap.ne_of (oS _ _ _) hb4;iterate 2 refine AX ?_
 refine AWPD.seq ?_;iterate 7 refine AX ?_
 refine .cx rfl (λhc9=>?_) (λhc9=>?_)
 ·omega
 iterate 2 refine AX ?_
 refine AWPD.seq ?_;iterate 2 refine AX ?_
 refine .p rfl (yY [(0,1),(1,1),(2,1),(3,1),(4,1),(5,1)] U112 zeroValue112 (zr112) rfl (pl112 _ U112) (.cons (tm rfl) (.inl rfl) .nil) rfl) (.s rfl (ajM (tm rfl) (.inr ⟨_,rfl⟩)) ?_);rintro _ _ ⟨b13,hb13,rfl,hH⟩;obtain rfl:=hH.symm;have hn2_13:=Heap.ne_of (oS _ _ _) hb13;have hn3_13:=Heap.ne_of (oS _ _ _) hb13;have hn4_13:=Heap.ne_of (oS _ _ _) hb13;iterate 3 refine AX ?_
 refine AWPD.seqD (l1:=[_]) (l2:=[]) 59 [some ⟨b2,0,none⟩,some ⟨b3,0,none⟩,some ⟨b4,0,none⟩] ?_;refine .p rfl (bmY (tm rfl) (tm rfl) (tm rfl)) ?_;iterate 2 refine AX ?_
 refine⟨rfl,AList.nil ?_⟩;refine AX ?_;refine AWPD.of ?_;refine AX ?_;have m32:=bnO hb3;have m43:=bnO hb4;have m42:=bnO (agT hb4);have m134:=bnO hb13;have m133:=bnO (agT hb13);have m132:=bnO (agT (agT hb13));have f3:=agT hb3;have f4:=agT (agT hb4);have f13:=agT (agT (agT hb13));clear hn2_3 hn2_4 hn3_4 hn2_13 hn3_13 hn4_13;have n23:=m32.symm;have n34:=m43.symm;have n24:=m42.symm;have n413:=m134.symm;have n313:=m133.symm;have n213:=m132.symm;have hk:=λx y z=>cfC (H:=H) (x:=x) (y:=y) (z:=z) n23 n24 n34;iterate 2 refine AX ?_
 refine .s rfl (zB call60 (evs1 rfl) (axS _ s b13 hb13 _ rfl)) ?_;rintro _ _ ⟨K1,bs1,c1,pad1,tf1,hK1,hc1,hcm1,hpad1,hH⟩;obtain rfl:=hH;iterate 4 refine AX ?_
 refine .loopW (bkH _ s rf b2 b3 b4 b13) (s.length) ⟨rd0,s.length+1,⟨K1,bs1,c1,[],pad1,.full,tf1,hK1,hc1,hcm1,hpad1,rfl,.nil,rfl⟩,cjY s,hrun,rfl,rfl⟩ sX (hRa _) ?_;rintro k _ _ ⟨st,fuel,hS,hok,hr,rfl,rfl⟩;have hS2:=hS;obtain⟨K3,bs3,c3,pre3,pad3,tl3,tf3,hK3,hc3,hcm3,hpad3,hpre3,hwk3,rfl⟩:=hS2;unfold RH;have hne:=hK3.ne;iterate 5 refine AX ?_
 refine .p rfl (zC U112 rfl Z3 (tm rfl)) ?_;iterate 6 refine AX ?_
 refine .cx rfl (λhc23=>?_) (λhc23=>?_)
 ·obtain⟨st2,fuel2,rfl,ho,hr2⟩:=byT hr aA;obtain⟨hok2,hlt2⟩:=ckN ho hok aA;iterate 5 refine AX ?_
  refine .s rfl (zB call61 (evs1 rfl) (bmB _ s st _ st2 ho hok aA hlen _ hS)) ?_;rintro _ _ hS9;iterate 3 refine AX ?_
  refine Round.mk ⟨st2,fuel2,hS9,hok2,hr2,rfl,rfl⟩ sX (hRa _) aA
 obtain rfl:=cgI hr aA;iterate 7 refine AX ?_
 refine .parsed hS (λK2 tf2 hle hnbr=>?_);have hsec:=byO hok;have hcnt:=byP hok;have hk2:=hle.objs _ _ (hk _ _ _).1;have hk3:=hle.objs _ _ (hk _ _ _).2.1;have hk4:=hle.objs _ _ (hk _ _ _).2.2;have hle9:=((Heap.le_set hb2 _).trans ((Heap.le_set hb3 _).trans (Heap.le_set hb4 _))).trans hle;iterate 3 refine AX ?_
 refine .p rfl (zC U112 rfl Z24 (tm rfl)) ?_;refine AX ?_;refine .s rfl (zB call62 (evs1 rfl) (apY st.secs .shared hsec hcnt _)) ?_;rintro _ _ ⟨q,rfl,hq,hH⟩;obtain rfl:=hH;iterate 9 refine AX ?_
 refine .cx rfl (λhc32=>?_) (λhc32=>?_)
 ·have e9:=of_decide_eq_true (hq.trans (by rw[hwr];rfl));omega
 iterate 6 refine AX ?_
 refine .p rfl (zC U112 rfl Z24 (tm rfl)) ?_;refine AX ?_;refine .e0 (zL Z24 (tm rfl) (tm rfl) rfl rfl (.inr ⟨_,rfl⟩) (by((repeat first|exact hk2|exact hk3|exact hk4|refine(oN _ _ aB).trans ?_);done)) (lB rfl)) ?_;try first|rw[sS]|rw[sU aB]
 refine .e0 (zL sizeOf37 (tm rfl) zJ rfl rfl (.inl rfl) (by((repeat first|exact hk2|exact hk3|exact hk4|refine(oN _ _ aB).trans ?_);done)) (lB rfl)) ?_;try first|rw[sS]|rw[sU aB]
 refine .e0 (zL Z3 (tm rfl) zJ rfl rfl (.inl rfl) (by((repeat first|exact hk2|exact hk3|exact hk4|refine(oN _ _ aB).trans ?_);done)) (lB rfl)) ?_;try first|rw[sS]|rw[sU aB]
 iterate 3 refine AX ?_
 refine⟨.inr rfl,59,[some ⟨b2,0,none⟩,some ⟨b3,0,none⟩,some ⟨b4,0,none⟩],rfl,call59,bnG _ _ _ _ (λ_=>?_)⟩;refine⟨_,H,.cons (.cellN _ _ b2 0 1 24 _ rfl (by repeat first|exact oS _ _ _|refine(oN _ _ aB).trans ?_) isAgg24 Z24 (lB rfl)) (.cons (.cell1 _ _ b3 0 37 _ _ rfl (by repeat first|exact oS _ _ _|refine(oN _ _ aB).trans ?_) rfl isAgg37) (.cons (.cell1 _ _ b4 0 3 _ _ rfl (by repeat first|exact oS _ _ _|refine(oN _ _ aB).trans ?_) rfl G3) .nil)),?_,rfl,rfl⟩;exact ayQ (ayQ (ayQ (ayQ hle9 f13) hb2) f3) f4
end
end Go.Proofs.YteedncdcbgplfaaGreatDoor
