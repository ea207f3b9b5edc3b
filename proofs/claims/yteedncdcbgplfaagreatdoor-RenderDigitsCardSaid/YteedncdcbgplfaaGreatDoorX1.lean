import Derived.Test.YteedncdcbgplfaaGreatDoorN2
import Derived.Test.YteedncdcbgplfaaGreatDoorLsk
import Derived.Shelf.Strings.SlTrimAscii
set_option maxHeartbeats 1000000
namespace Go.Proofs.YteedncdcbgplfaaGreatDoor
open Go.Proofs.Tryz
open Go Go.RowKit Go.Shelf
variable{g:G}{x:AV}{vs:List Value}{v:Nat}{l:List UInt8}{c:UInt8}
theorem relvs1(h:RelVs g [x] vs):∃v,vs=[v]∧RelV g x v:=by
 obtain⟨hl,hr⟩:=h
 match vs,hl with
 | [v],_=>exact⟨v,rfl,hr 0 _ _ rfl rfl⟩
theorem relvs2{y:AV}(h:RelVs g [x,y] vs):∃v u,vs=[v,u]∧RelV g x v∧RelV g y u:=by
 obtain⟨hl,hr⟩:=h
 match vs,hl with
 | [v,u],_=>exact⟨v,u,rfl,hr 0 _ _ rfl rfl,hr 1 _ _ rfl rfl⟩
theorem relvs3{y z:AV}(h:RelVs g [x,y,z] vs):∃v u t,vs=[v,u,t]∧RelV g x v∧RelV g y u∧RelV g z t:=by
 obtain⟨hl,hr⟩:=h
 match vs,hl with
 | [v,u,t],_=>exact⟨v,u,t,rfl,hr 0 _ _ rfl rfl,hr 1 _ _ rfl rfl,hr 2 _ _ rfl rfl⟩
theorem ACall.lib{P:Program}{f:FuncId}{xs:List AV}{H:Heap}(y:AV)(h:∀g vs w,RelVs g xs vs→Sat g H w→Calls P f vs.toArray w (λe w'=>∃v,e= .returned v∧RelV g y v∧Below w.heap.size w w')):ACall P f xs H (λz H'=>z=y∧H'=H):=
 λg vs w k s=>(h g vs w k s).mono λ_ _ ⟨v,he,hr,hb⟩=>⟨v,he,g,y,H,.id,hr,s.grow hb,rfl,rfl⟩
theorem bpN(B:Nat)(w:World)(n:Nat)(os:Array Obj)(h:B≤w.heap.size):Below B w (Sort.grow (w.drewN n) os):=
 ⟨rfl,rfl,rfl,by simp[Sort.grow,World.drewN],λk hk=>by simp[Sort.grow,World.drewN,gC,bQ hk h]⟩
theorem bhF(B:Nat)(w:World)(n:Nat):Below B w (w.drewN n):=⟨rfl,rfl,rfl,aZ _,λ_ _=>rfl⟩
theorem Sat.tab{g:G}{H:Heap}{w:World}(s:Sat g H w):Lib.TabIs prog w "internal/strconv.uint64pow10" .u64 Lib.pow10Tab:=by
 obtain⟨t,f,h⟩:=g.hinv.tab;have hlt:7<g.base.heap.size:=(cG.1 h).1;have h2:w.heap[7]?=some (.cells (Lib.pow10Tab.map λz=>Value.int .u64 z).toArray t f):=(s.below.block 7 hlt).trans h;have hn:prog.globalNamed "internal/strconv.uint64pow10"=some 7:=by kernel_rfl
 unfold Lib.TabIs World.var?;rw[hn,Option.bind_some,h2]
theorem Sat.maxCell{H:Heap}{w:World}(s:Sat g H w):∃m,w.cell? ⟨6,0,none⟩=some (.int .i64 m):=by
 obtain⟨m,hm⟩:=g.hinv.max;have hlt:=World.block_lt_of_cell? _ (a:=⟨6,0,none⟩) hm;exact⟨m,by rw[World.cell?_of_block (w:=g.base) (s.below.block 6 hlt)];exact hm⟩
theorem itoaA(n:Nat)(hn:n≤9223372036854775807):Fn 90 [.int .i64 (n:Int)] (.str (dec n)):=by
 intro H;refine .lib _ λg vs w k s=>?_;obtain⟨v,rfl,hv⟩:=relvs1 k;cases hv
 refine(Tryz.strconv_Itoa (n:Int) aA aA w s.tab).mono ?_;rintro e w' ⟨rfl,q,os,rfl⟩;refine⟨_,rfl,?_,bpN _ _ _ _ (aZ _)⟩;rw[cbJ];refine .str _ ?_;have:(dec n).length≤20:=(afX aC).2 (bA hn aC);rw[zQ];omega
theorem arI(c:UInt8):∀n,Lib.repeatL [c] n=List.replicate n c
 |0=>rfl
 |n+1=>by rw[Lib.repeatL,arI c n,eY];rfl
theorem repeatA(c:UInt8)(n:Nat)(hn:n≤100000000):Fn 103 [.str [c],.int .i64 (n:Int)] (.str (List.replicate n c)):=by
 intro H;refine .lib _ λg vs w k s=>?_;obtain⟨v,u,rfl,hv,hu⟩:=relvs2 k;cases hv;cases hu
 have hl:(List.replicate n c).length≤maxLen:=by rw[bE,zQ];omega
 rcases bX n 2 with h|h
 ·rcases(by omega:n=0∨n=1)with rfl|rfl
  ·refine(Tryz.strings_Repeat_zero ⟨[c].toArray⟩ w).mono ?_;rintro e w' ⟨rfl,rfl⟩;exact⟨_,rfl,.str [] aF,Below.refl _ _⟩
  refine(Tryz.strings_Repeat_one ⟨[c].toArray⟩ w).mono ?_;rintro e w' ⟨rfl,rfl⟩;exact⟨_,rfl,.str [c] hl,Below.refl _ _⟩
 refine(Tryz.strings_Repeat_main ⟨[c].toArray⟩ n w h aA (by show 1*n≤_;omega) (by show 0<1;omega)).mono ?_;rintro e w' ⟨rfl,hb⟩;refine⟨_,rfl,?_,hb⟩;have e:Lib.repeatL (⟨#[c]⟩:ByteArray).data.toList n=List.replicate n c:=arI c n;rw[e];exact .str _ hl
theorem repeatZ(c:UInt8)(q:Int)(n:Nat)(hq:q=(n:Int))(hn:n≤100000000):Fn 103 [.str [c],.int .i64 q] (.str (List.replicate n c)):=by
 intro H;subst hq;exact repeatA c n hn H
theorem trimLeftA(c:UInt8)(hc:c.toNat<128)(s:List UInt8):Fn 108 [.str s,.str [c]] (.str (s.dropWhile (·==c))):=by
 intro H;refine .lib _ λg vs w k st=>?_;obtain⟨v,u,rfl,hv,hu⟩:=relvs2 k;cases hv with|str _ hs=>?_
 cases hu
 refine(Tryz.strings_TrimLeft_one ⟨s.toArray⟩ c hc w).mono ?_;rintro e w' ⟨rfl,rfl⟩;exact⟨_,rfl,.str _ (bC (eM _).length_le hs),Below.refl _ _⟩
theorem trimRightA(c:UInt8)(hc:c.toNat<128)(s:List UInt8):Fn 151 [.str s,.str [c]] (.str (Lib.trimRightB s c)):=by
 intro H;refine .lib _ λg vs w k st=>?_;obtain⟨v,u,rfl,hv,hu⟩:=relvs2 k;cases hv with|str _ hs=>?_
 cases hu
 refine(Tryz.strings_TrimRight_one ⟨s.toArray⟩ c hc w (by show s.toArray.size≤_;rw[zQ]at hs;simpa using hs)).mono ?_;rintro e w' ⟨rfl,rfl⟩;refine⟨_,rfl,.str _ (bC ?_ hs),Below.refl _ _⟩;show(s.reverse.dropWhile (·==c)).reverse.length≤s.length;rw[fJ];have:=(eM (l:=s.reverse) (·==c)).length_le
 rwa[fJ]at this
theorem trimSetA(cs:List UInt8)(hc:∀b,b∈cs→b.toNat<128)(hcl:cs.length<1000)(s:List UInt8):Fn 192 [.str s,.str cs] (.str (Lib.trimS s cs)):=by
 intro H;refine .lib _ λg vs w k st=>?_;obtain⟨v,u,rfl,hv,hu⟩:=relvs2 k;cases hv with|str _ hs=>?_
 cases hu
 refine(Any.strings_Trim_laid Tryz.lays160 (by kernel_rfl) ⟨s.toArray⟩ ⟨cs.toArray⟩ w (by show s.toArray.size≤_;rw[zQ]at hs;simpa using hs) (by show cs.toArray.size<_;rw[eH];omega) (λj b h=>hc b (fP (by simpa using h)))).mono ?_;rintro e w' ⟨rfl,hb⟩;refine⟨_,rfl,.str _ (bC ?_ hs),hb⟩;show((s.reverse.dropWhile (cs.contains ·)).reverse.dropWhile (cs.contains ·)).length≤s.length;have h1:=(eM (l:=(s.reverse.dropWhile (cs.contains ·)).reverse) (cs.contains ·)).length_le;have h2:=(eM (l:=s.reverse) (cs.contains ·)).length_le;rw[fJ]at h1 h2;omega
theorem hasSuffixA(s p:List UInt8):Fn 230 [.str s,.str p] (.bool (Lib.hasSuffix s p)):=by
 intro H;refine .lib _ λg vs w k st=>?_;obtain⟨v,u,rfl,hv,hu⟩:=relvs2 k;cases hv with|str _ hs=>?_
 cases hu
 refine(Tryz.strings_HasSuffix ⟨s.toArray⟩ ⟨p.toArray⟩ w (by show s.toArray.size≤_;rw[zQ]at hs;simpa using hs)).mono ?_;rintro e w' ⟨rfl,rfl⟩;exact⟨_,rfl,.bool _,Below.refl _ _⟩
theorem compareA(s p:List UInt8):Fn 304 [.str s,.str p] (.int .i64 (Lib.compareBytes s p)):=by
 intro H;refine .lib _ λg vs w k st=>?_;obtain⟨v,u,rfl,hv,hu⟩:=relvs2 k;cases hv;cases hu
 refine(Tryz.strings_Compare ⟨s.toArray⟩ ⟨p.toArray⟩ w).mono ?_;rintro e w' ⟨rfl,rfl⟩;exact⟨_,rfl,.int _ _,Below.refl _ _⟩
section
open Go Go.RowKit
set_option maxRecDepth 100000
theorem cbZ{a:Nat}{s:List UInt8}(hv:0<v)(h:dec a=if v=0 then s else dec v++s):
  dec a=if v/1000000000=0 then(if v/1000000000=0 then dec (v%1000000000)else List.replicate (9-(dec (v%1000000000)).length) 48++dec (v%1000000000))++s
   else dec (v/1000000000)++((if v/1000000000=0 then dec (v%1000000000)else List.replicate (9-(dec (v%1000000000)).length) 48++dec (v%1000000000))++s):=by
 rw[aJ]at h;by_cases h0:v/1000000000=0
 ·rw[aN h0,aN h0,h,show v%1000000000=v by omega]
 rw[aM h0,aM h0,h,←bK,←ccD aA]
theorem ciM{a:Nat}{s:List UInt8}(h:dec a=if v=0 then s else dec v++s):s.length≤(dec a).length:=by
 rw[h];split
 ·exact aZ _
 rw[aO];omega
theorem bmD{xs:List Nat}:qG xs=0↔val xs=0:=⟨aaK,aaL⟩
theorem bzQ(h:(dec (v%1000000000)).length≤9):(if v/1000000000=0 then dec (v%1000000000)else List.replicate (9-(dec (v%1000000000)).length) 48++dec (v%1000000000)).length≤9:=by
 split
 ·exact h
 rw[aO,bE];omega
theorem ayM{zs ws:List Nat}{m:Nat}(h:ws.length=m):(mid zs 0 ws).take m=ws:=by
 have:=bbW (zs:=zs) (o:=0) h (Nat.zero_le _)
 rwa[dL]at this
theorem beR(ws:List Nat):qG (ws.take (qG ws))=qG ws∧val (ws.take (qG ws))=val ws:=by
 induction ws with
 |nil=>exact⟨rfl,rfl⟩
 |cons x xs ih=>
  by_cases h:qG xs=0∧x=0
  ·rw[qG,aN h,fH];exact⟨rfl,by rw[val,val,aaK h.1,h.2]⟩
  rw[qG,aM h,fI,qG,ih.1,aM h,val,val,ih.2];exact⟨rfl,rfl⟩
def clI(a n b7:Nat)(H:Heap):Nat→Env→Heap→Prop:=λk env H1=>∃(m:Nat)(zs:List Nat)(s:List UInt8),m≤n∧zs.length=n∧Limbs zs∧qG (zs.take m)=m∧dec a=(if val (zs.take m)=0 then s else dec (val (zs.take m))++s)∧env=[(3,.mslice (some ⟨b7,0,none⟩) m n),(4,.str s)]∧H1=H.set b7 (.box 210 (U .u32 zs))∧k=val (zs.take m)
theorem apI(a:Nat)(hx:a<BIG):Fn 109 [qX a] (.str (dec a)):=by
 intro H;have ha256:=yM hx;have hdl:=asV hx;refine .of_body func109 rfl ntmps109 results109 rfl ?_;refine AX ?_;refine AX ?_;refine .p rfl (zE (zO rfl)) ?_;refine .nil ?_;iterate 2 refine AX ?_
 refine AX ?_;refine .p rfl (zG (.tmp _ _ rfl)) ?_;refine .s rfl (zB C171 (.cons (.tmp _ _ rfl) .nil) (bkW _ _ (zH _) aA _)) ?_;rintro _ _ ⟨b7,hb7,rfl,hH⟩;obtain rfl:=hH.symm;rw[zN];refine .p rfl (zE (.tmp _ _ rfl)) ?_;refine .nil ?_;iterate 3 refine AX ?_
 refine AX ?_;refine .p rfl (zG (.tmp _ _ rfl)) ?_;first|(refine .p rfl (qB U159 (.tmp _ _ rfl)) ?_)|(refine .p rfl (aiZ U159 (.tmp _ _ rfl)) ?_)|(refine .p rfl (afU U159 (.tmp _ _ rfl)) ?_)
 refine .p rfl (acE (.tmp _ _ rfl) (yB 0)) ?_;refine .nil ?_;refine AX ?_
 
 refine .cond (.tmp _ _ rfl) (λhc10=>?_) (λhc10=>?_)
 ·try simp only[aT]at hc10
  refine AX ?_;refine .frzU (t:=3) rfl hb7 (aZ _) (aZ _) (by simp only[zQ];omega) ?_;refine AX ?_;refine .p rfl (zE (zO rfl)) ?_;refine .nil ?_;iterate 3 refine AX ?_
  
  refine AX ?_;refine⟨?_,rfl⟩;have ha0:a=0:=by
   have h0:=zN a;rw[dI.1 (by omega:(zF a).length=0)]at h0;exact h0.symm
  rw[ha0];rfl
 try simp only[aR]at hc10
 have ha0:a≠0:=by rintro rfl;simp[aaU]at hc10
 iterate 3 refine AX ?_
 refine AX ?_;refine .p rfl (zE (zO rfl)) ?_;refine .nil ?_;iterate 3 refine AX ?_
 
 refine .loopW (clI a (zF a).length b7 H) (a) ⟨(zF a).length,zF a,[],aZ _,rfl,zH a,by rw[cX,aiF],by rw[cX,zN,aM ha0,bU],rfl,rfl,by rw[cX,zN]⟩ sX (hRa _) ?_;rintro _ _ _ ⟨m,zs,s,hm,hzl,hzL,hrm,hdec,rfl,rfl,hk⟩;have hsl:=ciM hdec;iterate 2 refine AX ?_
 refine AX ?_;refine .p rfl (zG (.tmp _ _ rfl)) ?_;first|(refine .p rfl (qB U159 (.tmp _ _ rfl)) ?_)|(refine .p rfl (aiZ U159 (.tmp _ _ rfl)) ?_)|(refine .p rfl (afU U159 (.tmp _ _ rfl)) ?_)
 refine .p rfl (abH (.tmp _ _ rfl) (yB 0)) ?_;refine .nil ?_;refine AX ?_
 
 refine .cond (.tmp _ _ rfl) (λhc13=>?_) (λhc13=>?_)
 ·try simp only[aT]at hc13
  have hpos:0<val (zs.take m):=eL (λh=>by have:=aaL h;omega);iterate 4 refine AX ?_
  refine AX ?_;refine .p rfl (zG (.tmp _ _ rfl)) ?_;refine .s rfl (zB call201 (.cons (.tmp _ _ rfl) (.cons (yB 1000000000) .nil)) (aqO b7 0 m (zF a).length 1000000000 aC aC zs hzL aA aA _ (oS _ _ _))) ?_;rintro _ _ ⟨rfl,ws,hwl,hwL,hwv,hH⟩;obtain rfl:=hH.symm;rw[sS];rw[dL]at *;generalize hv:val (zs.take m)=v at *;have hvm:=bR v (by decide:0<1000000000);have hpl:=(afX (n:=v%1000000000) (k:=9) aC).2 hvm;have hrw:=bmD (xs:=ws);have hrl:=aaR ws;obtain⟨hrr,hrv⟩:=beR ws;rw[hwv]at hrw hrv;have hpt:=bzQ hpl;have hrp:(List.replicate (9-(dec (v%1000000000)).length) (48:UInt8)).length=9-(dec (v%1000000000)).length:=bE;refine .p rfl (qD U210 U3 (.tmp _ _ rfl) (wrapNI64 (by first|assumption|omega))) ?_;refine .s rfl (zB C90 (.cons (.tmp _ _ rfl) .nil) (itoaA _ aA _)) ?_;rintro _ _ ⟨rfl,hH⟩;obtain rfl:=hH.symm;refine .p rfl (zE (.tmp _ _ rfl)) ?_;refine .nil ?_;refine AX ?_;refine .seqToL [(3,.mslice (some ⟨b7,0,none⟩) (qG ws) (zF a).length),(5,.str (if v/1000000000=0 then dec (v%1000000000)else List.replicate (9-(dec (v%1000000000)).length) 48++dec (v%1000000000)))] [4] ?_ ?_
  ·refine AX ?_;refine AX ?_;refine .p rfl (zG (.tmp _ _ rfl)) ?_;refine .s rfl (zB C194 (.cons (.tmp _ _ rfl) .nil) (bpB b7 m (zF a).length (mid zs 0 ws) (aeF hzL hwL) (by rw[afV hwl aA];omega) aA hm _ (oS _ _ _))) ?_;rintro _ _ ⟨rfl,hH⟩;obtain rfl:=hH.symm;rw[ayM hwl];refine .p rfl (zE (.tmp _ _ rfl)) ?_;refine .nil ?_;iterate 2 refine AX ?_
   refine AX ?_;refine .p rfl (zG (.tmp _ _ rfl)) ?_;first|(refine .p rfl (qB U159 (.tmp _ _ rfl)) ?_)|(refine .p rfl (aiZ U159 (.tmp _ _ rfl)) ?_)|(refine .p rfl (afU U159 (.tmp _ _ rfl)) ?_)
   refine .p rfl (abH (.tmp _ _ rfl) (yB 0)) ?_;refine .nil ?_;refine AX ?_
   
   refine .cond (.tmp _ _ rfl) (λhc22=>?_) (λhc22=>?_)
   ·try simp only[aT]at hc22
    refine AX ?_;refine .p rfl (zG (.tmp _ _ rfl)) ?_;refine .p rfl (aaP U9 (.tmp _ _ rfl)) ?_;refine .p rfl (qK (yB 9) (.tmp _ _ rfl) aA) ?_;refine .s rfl (zB C103 (.cons (zO rfl) (.cons (.tmp _ _ rfl) .nil)) (repeatZ 48 _ (9-(dec (v%1000000000)).length) aA aA _)) ?_;rintro _ _ ⟨rfl,hH⟩;obtain rfl:=hH.symm;refine .p rfl (zG (.tmp _ _ rfl)) ?_;refine .p rfl (zY (.tmp _ _ rfl) (.tmp _ _ rfl) (by simp only[zQ]at *;omega)) ?_;refine .p rfl (zE (.tmp _ _ rfl)) ?_;refine .nil ?_;exact⟨rfl,(zR rfl (by first|rfl|(rw[aJ])|(rw[aK])) (zR rfl (by first|rfl|(rw[aJ])|(rw[aK])) (zK rfl yF))),rfl⟩
   try simp only[aR,cU]at hc22
   refine AX ?_;exact⟨rfl,(zR rfl (by first|rfl|(rw[aJ])|(rw[aK])) (zR rfl (by first|rfl|(rw[aJ])|(rw[aK])) (zK rfl yF))),rfl⟩
  refine .sub [(3,_),(5,_),(4,_)] sX ?_;refine AX ?_;refine .p rfl (zG (.tmp _ _ rfl)) ?_;refine .p rfl (zG (.tmp _ _ rfl)) ?_;refine .p rfl (zY (.tmp _ _ rfl) (.tmp _ _ rfl) (by simp only[zQ]at *;omega)) ?_;refine .p rfl (zE (.tmp _ _ rfl)) ?_;refine .nil ?_;iterate 2 refine AX ?_
  have htt:(mid zs 0 ws).take (qG ws)=ws.take (qG ws):=by rw[←ayM (zs:=zs) hwl,List.take_take,ayM hwl,cZ aA]
  refine Round.mk ⟨qG ws,mid zs 0 ws,_,by omega,(afV hwl aA).trans hzl,aeF hzL hwL,by rw[htt];exact hrr,by rw[htt,hrv];exact cbZ hpos hdec,rfl,rfl,by rw[htt,hrv]⟩ sX (hRa _) aA
 try simp only[aR,cU]at hc13
 iterate 6 refine AX ?_
 refine .frzU (t:=3) rfl hb7 aA hm (by simp only[zQ];omega) ?_;refine AX ?_;refine .p rfl (zG (.tmp _ _ rfl)) ?_;refine .p rfl (zE (.tmp _ _ rfl)) ?_;refine .nil ?_;iterate 2 refine AX ?_
 
 refine AX ?_;refine⟨?_,rfl⟩;have hm0:m=0:=by omega
 rw[hm0,fH]at hdec;rw[show dec a=s from hdec.trans (aN rfl)];rfl
end
def isD(b:UInt8):Prop:=48≤b.toNat∧b.toNat≤57
def Digs(l:List UInt8):Prop:=∀b,b∈l→isD b
def bdN(acc:Nat)(l:List UInt8):Nat:=l.foldl (λa c=>a*10+(c.toNat-48)) acc
theorem ajX(acc:Nat):bdN acc []=acc:=rfl
theorem adG(acc:Nat)(c:UInt8)(r:List UInt8):bdN acc (c::r)=bdN (acc*10+(c.toNat-48)) r:=by unfold bdN;rw[List.foldl_cons]
def num(l:List UInt8):Nat:=bdN 0 l
theorem arZ:∀(l:List UInt8)(acc:Nat),bdN acc l=acc*10^l.length+num l
 | [],acc=>by rw[num,ajX,ajX];simp
 |c::r,acc=>by
  rw[num,adG,adG,arZ r (acc*10+(c.toNat-48)),arZ r (0*10+(c.toNat-48)),aW,bP,bY,dO,bZ,bJ,bM 10];omega
theorem ahL(a b:List UInt8):num (a++b)=num a*10^b.length+num b:=by
 have h:∀(a:List UInt8)(acc:Nat),bdN acc (a++b)=bdN (bdN acc a) b:=by
  intro a;induction a with
  |nil=>intro acc;rfl
  |cons c r ih=>intro acc;rw[eE,adG,adG,ih]
 rw[num,h,arZ];rfl
theorem ajW(c:UInt8)(r:List UInt8):num (c::r)=(c.toNat-48)*10^r.length+num r:=by
 rw[num,adG,arZ,dO,bZ]
theorem ahK:∀{l:List UInt8},Digs l→num l<10^l.length
 | [],_=>by rw[num,ajX];simp
 |c::r,h=>by
  have h1:=ahK (l:=r) λb hb=>h b (by simp[hb]);have h2:=h c aF;rw[ajW,aW,bP];have h3:(c.toNat-48)*10^r.length≤9*10^r.length:=bD _ (by have:=h2.2;omega);omega
theorem btU(acc:Nat)(l:List UInt8):acc≤bdN acc l:=by
 rw[arZ];have:acc*1≤acc*10^l.length:=bS _ (bL aC);omega
theorem avR:∀(l:List UInt8)(acc:Nat),Digs l→bdN acc l<18446744073709551616→Lib.parseUint10 acc l= .ok (bdN acc l)
 | [],acc,_,_=>rfl
 |c::r,acc,h,hl=>by
  rw[adG]at hl ⊢;have h1:=btU (acc*10+(c.toNat-48)) r;have h2:=h c aF;unfold Lib.parseUint10;rw[aN (show 48≤c.toNat∧c.toNat≤57 from h2),aJ,aJ];exact avR r _ (λb hb=>h b (by simp[hb])) hl
theorem Digs.take(h:Digs l)(n:Nat):Digs (l.take n):=λb hb=>h b (fQ hb)
theorem Digs.drop(h:Digs l)(n:Nat):Digs (l.drop n):=λb hb=>h b (gD hb)
theorem Digs.dropWhile(h:Digs l)(q:UInt8→Bool):Digs (l.dropWhile q):=λb hb=>h b ((eM q).subset hb)
theorem bhH(hne:l≠[])(h:Digs l)(hl:l.length≤18):Lib.atoiAll l= .ok (num l:Int):=by
 have h1:=ahK h;have h2:10^l.length≤10^18:=bB aC hl;have h3:=avR l 0 h (by rw[show bdN 0 l=num l from rfl];omega);cases l with
 |nil=>exact absurd rfl hne
 |cons c r=>
  have h4:=h c aF;have h4a:=h4.1;unfold Lib.atoiAll;simp only[];rw[aJ];unfold Lib.parseMag;rw[aM aF,h3];simp only[];rw[aM (by rintro⟨_,hb⟩;rw[show bdN 0 (c::r)=num (c::r)from rfl]at hb;omega),aM (by rintro⟨hb,_⟩;omega),aJ];rfl
theorem atoiA(s:List UInt8)(hne:s≠[])(h:Digs s)(hl:s.length≤18):Fn 102 [.str s] (.tuple [.int .i64 (num s:Int),.nilIface]):=by
 intro H;refine .lib _ λg vs w k st=>?_;obtain⟨v,rfl,hv⟩:=relvs1 k;cases hv
 refine(Tryz.strconv_Atoi_ok ⟨s.toArray⟩ (by show s.toArray.size≤_;rw[eH];omega) _ (bhH hne h hl) w).mono ?_;rintro e w' ⟨rfl,hw⟩;refine⟨_,rfl,.tuple _ _ rfl (λi c v hc hv=>?_),?_⟩
 ·match i with
  |0=>cases hc;cases hv;exact .int _ _
  |1=>cases hc;cases hv;exact .nilIface
  |i+2=>simp at hc
 rcases hw with rfl|⟨t,rfl⟩
 ·exact Below.refl _ _
 exact Lib.bytesWorld_below _ _ _
theorem cgZ(n:Nat):num (dec n)=n:=by
 induction n using Nat.strongRecOn with
 |ind n ih=>
  have hd:∀m,m<10→(dgt m).toNat-48=m:=λm hm=>by
   unfold dgt;rw[gB];omega
  rcases bX n 10 with h|h
  ·rw[akZ h,ajW,hd n h,num,ajX];simp
  rw[anE h,ahL,ih _ aA,ajW,hd _ (bR _ aC),num,ajX];simp;omega
theorem akH(n:Nat):Digs (dec n):=by
 have hd:∀m,m<10→isD (dgt m):=λm hm=>by
  unfold isD dgt;rw[gB];omega
 induction n using Nat.strongRecOn with
 |ind n ih=>
  rcases bX n 10 with h|h
  ·rw[akZ h];intro b hb;rw[eU.1 hb];exact hd n h
  rw[anE h];intro b hb;rcases cN.1 hb with hb|hb
  ·exact ih _ aA b hb
  rw[eU.1 hb];exact hd _ (bR _ aC)
def dA(neg:Bool)(ds:List UInt8)(e:Int):AV:=.agg [.bool neg,.str ds,.int .i64 e]
def awN(ds:List UInt8):Bool:=ds.all λb=>decide (48≤b.toNat)&&decide (b.toNat≤57)
theorem aeZ{ds:List UInt8}:awN ds=true↔Digs ds:=by
 unfold awN Digs isD;simp
def yE(ds:List UInt8)(e:Int):Bool:=
 if ds=[]then decide (e=0)else
 decide (ds.length≤1100)&&decide (-100000≤e)&&decide (e≤100000)&&awN ds&& !decide ((ds.getD 0 0)=48)&& !decide ((ds.getD (ds.length-1) 0)=48)
def akP(ds:List UInt8):List UInt8:=ds.dropWhile (·==48)
def abE(ds:List UInt8):List UInt8:=Lib.trimRightB (akP ds) 48
def adT(ds:List UInt8):Nat:=(akP ds).length-(abE ds).length
def okD(ds:List UInt8)(e:Int):Prop:=(abE ds).length≤1100∧ -100000≤e+adT ds∧e+adT ds≤100000
instance (ds:List UInt8) (e:Int):Decidable (okD ds e):=inferInstanceAs (Decidable (_∧_∧_))
def mkN(neg:Bool)(ds:List UInt8)(e:Int):(Bool×List UInt8×Int)×Int:=
 if abE ds=[]then((neg,[],0),0)else if okD ds e then((neg,abE ds,e+adT ds),0)else((false,[],0),2)
def dT(d:(Bool×List UInt8×Int)×Int):AV:=.tuple [dA d.1.1 d.1.2.1 d.1.2.2,.int .i64 d.2]
theorem ahY(l:List UInt8)(c:UInt8):∃n,l=Lib.trimRightB l c++List.replicate n c:=by
 unfold Lib.trimRightB;have h:∀m:List UInt8,∃n,m=List.replicate n c++m.dropWhile (·==c):=by
  intro m;induction m with
  |nil=>exact⟨0,rfl⟩
  |cons x m ih=>
   rw[eC];split
   ·rename_i hx
    obtain⟨n,hn⟩:=ih;have hx':x=c:=by simpa using hx
    refine⟨n+1,?_⟩;rw[eY,eE,←hn,hx']
   exact⟨0,rfl⟩
 obtain⟨n,hn⟩:=h l.reverse;refine⟨n,?_⟩;have:=congrArg List.reverse hn;rw[List.reverse_reverse,List.reverse_append,List.reverse_replicate]at this;exact this
theorem afK(l:List UInt8)(c:UInt8):(Lib.trimRightB l c).length≤l.length:=by
 obtain⟨n,hn⟩:=ahY l c;have:=congrArg List.length hn;rw[aO]at this;omega
theorem asS(l:List UInt8)(c:UInt8):(l.dropWhile (·==c)).length≤l.length:=(eM _).length_le
theorem auL(h:Lib.trimRightB l c≠[]):(Lib.trimRightB l c).getD ((Lib.trimRightB l c).length-1) 0≠c:=by
 unfold Lib.trimRightB at h ⊢;have hh:l.reverse.dropWhile (·==c)≠[]:=by simpa using h
 have h1:∀m:List UInt8,m.dropWhile (·==c)≠[]→∃x r,m.dropWhile (·==c)=x::r∧x≠c:=by
  intro m;induction m with
  |nil=>intro h;exact absurd rfl h
  |cons x m ih=>
   intro h;rw[eC]at h ⊢;split
   ·rename_i hx;rw[aN hx]at h;exact ih h
   rename_i hx;exact⟨x,m,rfl,by simpa using hx⟩
 obtain⟨x,r,hx,hne⟩:=h1 _ hh;rw[hx];simp;exact hne
theorem boU(h:l.dropWhile (·==c)≠[]):(l.dropWhile (·==c)).getD 0 0≠c:=by
 induction l with
 |nil=>exact absurd rfl h
 |cons x m ih=>
  rw[eC]at h ⊢;split
  ·rename_i hx;rw[aN hx]at h;exact ih h
  rename_i hx;simpa using hx
theorem Digs.trimR(h:Digs l)(c:UInt8):Digs (Lib.trimRightB l c):=λb hb=>by
 obtain⟨n,hn⟩:=ahY l c;exact h b (by rw[hn];simp[hb])
theorem blN(h:Lib.trimRightB l c≠[]):(Lib.trimRightB l c).getD 0 0=l.getD 0 0:=by
 obtain⟨n,hn⟩:=ahY l c;cases ht:Lib.trimRightB l c with
 |nil=>exact absurd ht h
 |cons x r=>rw[ht]at hn;rw[hn];rfl
theorem aoD{ds:List UInt8}(hd:Digs ds)(h:abE ds≠[]){e:Int}:yE (abE ds) e=(decide ((abE ds).length≤1100)&&decide (-100000≤e)&&decide (e≤100000)):=by
 unfold yE;rw[aM h];have h1:awN (abE ds)=true:=aeZ.2 ((hd.dropWhile _).trimR _);have h2:(abE ds).getD ((abE ds).length-1) 0≠48:=auL h;have h3:(abE ds).getD 0 0≠48:=by
  unfold abE;rw[blN h];refine boU λh0=>h ?_;unfold abE akP;rw[h0];rfl
 rw[h1,aS h2,aS h3];simp
theorem amS{neg:Bool}{ds:List UInt8}{e:Int}(hd:Digs ds):yE (mkN neg ds e).1.2.1 (mkN neg ds e).1.2.2=true:=by
 unfold mkN;split
 ·rfl
 rename_i h
 split
 ·rename_i h2
  obtain⟨h3,h4,h5⟩:=h2;show yE (abE ds) (e+adT ds)=true;rw[aoD hd h];simp[h3,h4,h5]
 rfl
theorem qC{ds:List UInt8}{e:Int}(h:yE ds e=true):Digs ds:=by
 unfold yE at h;split at h
 ·rename_i h0;rw[h0];intro b hb;simp at hb
 simp only[bN]at h;exact aeZ.1 h.1.1.2
theorem yX{ds:List UInt8}{e:Int}(h:yE ds e=true):ds.length≤1100∧ -100000≤e∧e≤100000:=by
 unfold yE at h;split at h
 ·rename_i h0
  have:e=0:=by simpa using h
  rw[h0,this];simp
 simp only[bN,aT]at h;exact⟨h.1.1.1.1.1,h.1.1.1.1.2,h.1.1.1.2⟩
section
open Go Go.RowKit
def yK(x:Nat):Nat:=
 if x/4503599627370496%2048=2047 then(if x%4503599627370496=0 then 3 else 4)
 else if x/4503599627370496%2048=0 then(if x%4503599627370496=0 then 0 else 1)else 2
def yA(x:Nat):Nat:=if yK x≤1 then x%4503599627370496 else if yK x=2 then 4503599627370496+x%4503599627370496 else 0
def zP(x:Nat):Int:=if yK x≤1 then-1074 else if yK x=2 then((x/4503599627370496%2048:Nat):Int)-1075 else 0
def alN(x:Nat):Bool:=decide ((9223372036854775808:Int)≤(x:Int))
theorem azI(x:Nat):x&&&2047=x%2048:=dS x 11
theorem bkS(x:Nat):x&&&4503599627370495=x%4503599627370496:=dS x 52
theorem ckK{f:Nat}(h:f<4503599627370496):4503599627370496|||f=4503599627370496+f:=by
 have:=Nat.two_pow_add_eq_or_of_lt (i:=52) h 1;simp at this;omega
theorem acN(x:Nat):yA x<9007199254740992:=by
 unfold yA;split
 ·omega
 split<;>omega
theorem aaZ(x:Nat): -1075≤zP x∧zP x≤972:=by
 unfold zP;split
 ·omega
 split<;>omega
theorem ayR(x:Nat):yK x≤4:=by
 unfold yK;split
 ·split<;>omega
 split
 ·split<;>omega
 omega
end
section
open Go Go.RowKit
set_option maxRecDepth 100000
theorem acY(x:Nat)(hx:x<18446744073709551616):Fn 31 [.int .u64 (x:Int)] (.int .i64 (yK x:Int)):=by
 intro H;have hp:(2:Nat)^52=4503599627370496:=by decide
 refine .of_body func31 rfl ntmps31 results31 rfl ?_;iterate 9 refine AX ?_
 refine AM ?_;refine .p rfl (adQ (tm rfl) (yB 2047) aA aA) ?_;refine AX ?_;refine .p rfl (adQ (tm rfl) (yB 4503599627370495) aB aA) ?_;iterate 6 refine AX ?_
 rw[azI,bkS,hp];iterate 4 refine AM ?_
 refine zD (t:=13) rfl (λhg13=>?_) (λhg13=>?_)
 ·have hh13:=hg13;try simp only[aT]at hh13
  iterate 6 refine AM ?_
  refine .cx rfl (λhc10=>?_) (λhc10=>?_)
  ·iterate 9 refine AX ?_
   refine⟨?_,rfl⟩;simp only[yT,yK];congr 1
   (repeat' split)<;>first|rfl|omega
  iterate 7 refine AM ?_
  refine .cx rfl (λhc17=>?_) (λhc17=>?_)
  ·iterate 9 refine AX ?_
   refine⟨?_,rfl⟩;simp only[yT,yK];congr 1
   (repeat' split)<;>first|rfl|omega
  iterate 7 refine AM ?_
  refine .cx rfl (λhc20=>?_) (λhc20=>?_)
  ·iterate 9 refine AX ?_
   refine⟨?_,rfl⟩;simp only[yT,yK];congr 1
   (repeat' split)<;>first|rfl|omega
  iterate 7 refine AM ?_
  refine .cx rfl (λhc23=>?_) (λhc23=>?_)
  ·iterate 9 refine AX ?_
   refine⟨?_,rfl⟩;simp only[yT,yK];congr 1
   (repeat' split)<;>first|rfl|omega
  iterate 10 refine AX ?_
  refine⟨?_,rfl⟩;simp only[yT,yK];congr 1
  (repeat' split)<;>first|rfl|omega
 have hh13:=hg13;try simp only[aR]at hh13
 iterate 6 refine AX ?_
 refine .cond_false (tm rfl) aD ?_;iterate 7 refine AM ?_
 refine .cx rfl (λhc17=>?_) (λhc17=>?_)
 ·iterate 9 refine AX ?_
  refine⟨?_,rfl⟩;simp only[yT,yK];congr 1
  (repeat' split)<;>first|rfl|omega
 iterate 7 refine AM ?_
 refine .cx rfl (λhc20=>?_) (λhc20=>?_)
 ·iterate 9 refine AX ?_
  refine⟨?_,rfl⟩;simp only[yT,yK];congr 1
  (repeat' split)<;>first|rfl|omega
 iterate 7 refine AM ?_
 refine .cx rfl (λhc23=>?_) (λhc23=>?_)
 ·iterate 9 refine AX ?_
  refine⟨?_,rfl⟩;simp only[yT,yK];congr 1
  (repeat' split)<;>first|rfl|omega
 iterate 10 refine AX ?_
 refine⟨?_,rfl⟩;simp only[yT,yK];congr 1
 (repeat' split)<;>first|rfl|omega
theorem aiB(x:Nat)(hx:x<18446744073709551616):Fn 17 [.int .u64 (x:Int)] (.int .i64 (yK x:Int)):=by
 intro H;have hp:(2:Nat)^52=4503599627370496:=by decide
 refine .of_body func17 rfl ntmps17 results17 rfl ?_;iterate 8 refine AX ?_
 iterate 15 refine AM ?_
 rw[hp];iterate 4 refine AM ?_
 refine zD (t:=13) rfl (λhg13=>?_) (λhg13=>?_)
 ·have hh13:=hg13;try simp only[aT]at hh13
  iterate 6 refine AM ?_
  refine .cx rfl (λhc10=>?_) (λhc10=>?_)
  ·iterate 9 refine AX ?_
   refine⟨?_,rfl⟩;simp only[yT,yK];congr 1
   (repeat' split)<;>first|rfl|omega
  iterate 7 refine AM ?_
  refine .cx rfl (λhc17=>?_) (λhc17=>?_)
  ·iterate 9 refine AX ?_
   refine⟨?_,rfl⟩;simp only[yT,yK];congr 1
   (repeat' split)<;>first|rfl|omega
  iterate 5 refine AM ?_
  refine zD (t:=23) rfl (λhg23=>?_) (λhg23=>?_)
  ·have hh23:=hg23;try simp only[aT]at hh23
   iterate 6 refine AM ?_
   refine .cx rfl (λhc20=>?_) (λhc20=>?_)
   ·iterate 9 refine AX ?_
    refine⟨?_,rfl⟩;simp only[yT,yK];congr 1
    (repeat' split)<;>first|rfl|omega
   iterate 7 refine AM ?_
   refine .cx rfl (λhc27=>?_) (λhc27=>?_)
   ·iterate 9 refine AX ?_
    refine⟨?_,rfl⟩;simp only[yT,yK];congr 1
    (repeat' split)<;>first|rfl|omega
   iterate 10 refine AX ?_
   refine⟨?_,rfl⟩;simp only[yT,yK];congr 1
   (repeat' split)<;>first|rfl|omega
  have hh23:=hg23;try simp only[aR]at hh23
  iterate 6 refine AX ?_
  refine .cond_false (tm rfl) aD ?_;iterate 7 refine AM ?_
  refine .cx rfl (λhc27=>?_) (λhc27=>?_)
  ·iterate 9 refine AX ?_
   refine⟨?_,rfl⟩;simp only[yT,yK];congr 1
   (repeat' split)<;>first|rfl|omega
  iterate 10 refine AX ?_
  refine⟨?_,rfl⟩;simp only[yT,yK];congr 1
  (repeat' split)<;>first|rfl|omega
 have hh13:=hg13;try simp only[aR]at hh13
 iterate 6 refine AX ?_
 refine .cond_false (tm rfl) aD ?_;iterate 7 refine AM ?_
 refine .cx rfl (λhc17=>?_) (λhc17=>?_)
 ·iterate 9 refine AX ?_
  refine⟨?_,rfl⟩;simp only[yT,yK];congr 1
  (repeat' split)<;>first|rfl|omega
 iterate 5 refine AM ?_
 refine zD (t:=23) rfl (λhg23=>?_) (λhg23=>?_)
 ·have hh23:=hg23;try simp only[aT]at hh23
  iterate 6 refine AM ?_
  refine .cx rfl (λhc20=>?_) (λhc20=>?_)
  ·iterate 9 refine AX ?_
   refine⟨?_,rfl⟩;simp only[yT,yK];congr 1
   (repeat' split)<;>first|rfl|omega
  iterate 7 refine AM ?_
  refine .cx rfl (λhc27=>?_) (λhc27=>?_)
  ·iterate 9 refine AX ?_
   refine⟨?_,rfl⟩;simp only[yT,yK];congr 1
   (repeat' split)<;>first|rfl|omega
  iterate 10 refine AX ?_
  refine⟨?_,rfl⟩;simp only[yT,yK];congr 1
  (repeat' split)<;>first|rfl|omega
 have hh23:=hg23;try simp only[aR]at hh23
 iterate 6 refine AX ?_
 refine .cond_false (tm rfl) aD ?_;iterate 7 refine AM ?_
 refine .cx rfl (λhc27=>?_) (λhc27=>?_)
 ·iterate 9 refine AX ?_
  refine⟨?_,rfl⟩;simp only[yT,yK];congr 1
  (repeat' split)<;>first|rfl|omega
 iterate 10 refine AX ?_
 refine⟨?_,rfl⟩;simp only[yT,yK];congr 1
 (repeat' split)<;>first|rfl|omega
theorem arK(x:Nat)(_:x<18446744073709551616):Fn 50 [.int .u64 (x:Int)] (.bool (alN x)):=by
 intro H;refine .of_body func50 rfl ntmps50 results50 rfl ?_;iterate 14 refine AM ?_
 exact⟨rfl,rfl⟩
theorem aiL(x:Nat)(hx:x<18446744073709551616):Fn 91 [.int .u64 (x:Int)] (.tuple [.bool (alN x),.int .u64 ((yA x:Nat):Int),.int .i64 (zP x)]):=by
 intro H;have hp:(2:Nat)^52=4503599627370496:=by decide
 have hk:=ayR x;have hml:=bR x (by decide:0<4503599627370496);have hor:=ckK hml;have hbb:=azI (x/2^52);refine .of_body func91 rfl ntmps91 results91 rfl ?_;iterate 4 refine AM ?_
 iterate 6 refine AX ?_
 iterate 2 refine AM ?_
 refine .p rfl (adQ (tm rfl) (yB 4503599627370495) aB aA) ?_;iterate 6 refine AX ?_
 rw[bkS];iterate 2 refine AX ?_
 refine .cl rfl C31 (evs1 rfl) (acY _ aB _) ?_;iterate 3 refine AX ?_
 refine .seqToL [(13,.bool (decide (yK x≤1)))] [0,2,3,4,5,6,12] ?_ ?_
 ·iterate 6 refine AX ?_
  refine .cx rfl (λhc13=>?_) (λhc13=>?_)
  ·refine AX ?_;exact⟨rfl,(zR rfl (by congr 1;symm;first|(exact aU aA)|(by_cases h:yK x≤1<;>simp[h]<;>omega)) sX),rfl⟩
  iterate 4 refine AX ?_
  exact⟨rfl,(zR rfl (by congr 1;symm;first|(exact aU aA)|(by_cases h:yK x≤1<;>simp[h]<;>omega)) sX),rfl⟩
 refine .sub [(13,_),(0,_),(2,_),(3,_),(4,_),(5,_),(6,_),(12,_)] sX ?_;refine .cx rfl (λhc13=>?_) (λhc13=>?_)
 ·iterate 13 refine AX ?_
  refine⟨?_,rfl⟩;simp only[yT,yA,zP];rw[aK,aK]<;>rfl
 iterate 6 refine AX ?_
 refine .cx rfl (λhc18=>?_) (λhc18=>?_)
 ·iterate 4 refine AX ?_
  refine .p rfl (abK (yB 4503599627370496) (tm rfl) aA aA) ?_;iterate 2 refine AM ?_
  refine .p rfl (adQ (tm rfl) (yB 2047) aA aA) ?_;iterate 11 refine AX ?_
  refine⟨?_,rfl⟩;simp only[yT,yA,zP];rw[aJ,aK,aJ,aK,hor,azI,hp]<;>rfl
 iterate 8 refine AM ?_
 iterate 5 refine AX ?_
 refine⟨?_,rfl⟩;simp only[yT,yA,zP];rw[aJ,aJ,aJ,aJ]<;>rfl
theorem bbG(x:Nat)(hx:x<18446744073709551616):Fn 114 [.int .u64 (x:Int)] (.tuple [.bool (alN x),.int .u64 ((yA x:Nat):Int),.int .i64 (zP x)]):=by
 intro H;have hp:(2:Nat)^52=4503599627370496:=by decide
 have hk:=ayR x;refine .of_body func114 rfl ntmps114 results114 rfl ?_;iterate 4 refine AM ?_
 iterate 7 refine AX ?_
 refine .cl rfl C17 (evs1 rfl) (aiB _ aB _) ?_;iterate 3 refine AX ?_
 refine .seqToL [(7,.bool (decide (yK x≤1)))] [0,2,3,4,6] ?_ ?_
 ·iterate 6 refine AX ?_
  refine .cx rfl (λhc7=>?_) (λhc7=>?_)
  ·refine AX ?_;exact⟨rfl,(zR rfl (by congr 1;symm;first|(exact aU aA)|(by_cases h:yK x≤1<;>simp[h]<;>omega)) sX),rfl⟩
  iterate 4 refine AX ?_
  exact⟨rfl,(zR rfl (by congr 1;symm;first|(exact aU aA)|(by_cases h:yK x≤1<;>simp[h]<;>omega)) sX),rfl⟩
 refine .sub [(7,_),(0,_),(2,_),(3,_),(4,_),(6,_)] sX ?_;refine .cx rfl (λhc7=>?_) (λhc7=>?_)
 ·iterate 3 refine AX ?_
  refine .cl rfl call50 (evs1 rfl) (arK _ aB _) ?_;iterate 4 refine AM ?_
  iterate 7 refine AX ?_
  refine⟨?_,rfl⟩;simp only[yT,yA,zP];rw[aK,aK]<;>rfl
 iterate 6 refine AX ?_
 refine .cx rfl (λhc14=>?_) (λhc14=>?_)
 ·iterate 3 refine AX ?_
  refine .cl rfl call50 (evs1 rfl) (arK _ aB _) ?_;iterate 2 refine AM ?_
  refine .p rfl (qF (yB 4503599627370496) (tm rfl) aA) ?_;iterate 4 refine AM ?_
  iterate 10 refine AX ?_
  refine⟨?_,rfl⟩;simp only[yT,yA,zP];rw[aJ,aK,aJ,aK,hp]<;>rfl
 iterate 6 refine AX ?_
 refine .cl rfl call50 (evs1 rfl) (arK _ aB _) ?_;iterate 2 refine AM ?_
 iterate 5 refine AX ?_
 refine⟨?_,rfl⟩;simp only[yT,yA,zP];rw[aJ,aJ,aJ,aJ]<;>rfl
end
end Go.Proofs.YteedncdcbgplfaaGreatDoor
