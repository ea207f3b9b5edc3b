import Derived.Test.YtmmgbnolccpjoaaGreatDoorN2
import Derived.Test.YtmmgbnolccpjoaaGreatDoorLsk
import Derived.Shelf.Strings.SlTrimAscii
set_option maxHeartbeats 1000000
namespace Go.Proofs.YtmmgbnolccpjoaaGreatDoor
open Go.Proofs.Tryz
open Go Go.RowKit Go.Shelf
variable{g:G}{x:AV}{vs:List Value}{v:Nat}{l:List UInt8}{c:UInt8}
theorem relvs1(h:RelVs g [x] vs):∃v,vs=[v]∧RelV g x v:=by
 obtain⟨hl,hr⟩:=h
 match vs,hl with
 | [v],_=>exact⟨v,rfl,hr 0 _ _ rfl rfl⟩
theorem relvs2{y:AV}(h:RelVs g [x,y] vs):∃v u,vs=[v,u]∧RelV g x v∧RelV g y u:=by
 obtain⟨hl,hr⟩:=h
 match vs,hl with
 | [v,u],_=>exact⟨v,u,rfl,hr 0 _ _ rfl rfl,hr 1 _ _ rfl rfl⟩
theorem relvs3{y z:AV}(h:RelVs g [x,y,z] vs):∃v u t,vs=[v,u,t]∧RelV g x v∧RelV g y u∧RelV g z t:=by
 obtain⟨hl,hr⟩:=h
 match vs,hl with
 | [v,u,t],_=>exact⟨v,u,t,rfl,hr 0 _ _ rfl rfl,hr 1 _ _ rfl rfl,hr 2 _ _ rfl rfl⟩
theorem ACall.lib{P:Program}{f:FuncId}{xs:List AV}{H:Heap}(y:AV)(h:∀g vs w,RelVs g xs vs→Sat g H w→Calls P f vs.toArray w (λe w'=>∃v,e= .returned v∧RelV g y v∧Below w.heap.size w w')):ACall P f xs H (λz H'=>z=y∧H'=H):=
 λg vs w k s=>(h g vs w k s).mono λ_ _ ⟨v,he,hr,hb⟩=>⟨v,he,g,y,H,.id,hr,s.grow hb,rfl,rfl⟩
theorem btD(B:Nat)(w:World)(n:Nat)(os:Array Obj)(h:B≤w.heap.size):Below B w (Sort.grow (w.drewN n) os):=
 ⟨rfl,rfl,rfl,by simp[Sort.grow,World.drewN],λk hk=>by simp[Sort.grow,World.drewN,gM,bM hk h]⟩
theorem bkW(B:Nat)(w:World)(n:Nat):Below B w (w.drewN n):=⟨rfl,rfl,rfl,aV _,λ_ _=>rfl⟩
theorem Sat.tab{g:G}{H:Heap}{w:World}(s:Sat g H w):Lib.TabIs prog w "internal/strconv.uint64pow10" .u64 Lib.pow10Tab:=by
 obtain⟨t,f,h⟩:=g.hinv.tab;have hlt:7<g.base.heap.size:=(cQ.1 h).1;have h2:w.heap[7]?=some (.cells (Lib.pow10Tab.map λz=>Value.int .u64 z).toArray t f):=(s.below.block 7 hlt).trans h;have hn:prog.globalNamed "internal/strconv.uint64pow10"=some 7:=by kernel_rfl
 unfold Lib.TabIs World.var?;rw[hn,Option.bind_some,h2]
theorem Sat.maxCell{H:Heap}{w:World}(s:Sat g H w):∃m,w.cell? ⟨2,0,none⟩=some (.int .i64 m):=by
 obtain⟨m,hm⟩:=g.hinv.max;have hlt:=World.block_lt_of_cell? _ (a:=⟨2,0,none⟩) hm;exact⟨m,by rw[World.cell?_of_block (w:=g.base) (s.below.block 2 hlt)];exact hm⟩
theorem itoaA(n:Nat)(hn:n≤9223372036854775807):Fn 109 [.int .i64 (n:Int)] (.str (dec n)):=by
 intro H;refine .lib _ λg vs w k s=>?_;obtain⟨v,rfl,hv⟩:=relvs1 k;cases hv
 refine(Tryz.strconv_Itoa (n:Int) aA aA w s.tab).mono ?_;rintro e w' ⟨rfl,q,os,rfl⟩;refine⟨_,rfl,?_,btD _ _ _ _ (aV _)⟩;rw[cdH];refine .str _ ?_;have:(dec n).length≤20:=(ahX aC).2 (aU hn aC);rw[zJ];omega
theorem atO(c:UInt8):∀n,Lib.repeatL [c] n=List.replicate n c
 |0=>rfl
 |n+1=>by rw[Lib.repeatL,atO c n,List.replicate_succ];rfl
theorem repeatA(c:UInt8)(n:Nat)(hn:n≤100000000):Fn 232 [.str [c],.int .i64 (n:Int)] (.str (List.replicate n c)):=by
 intro H;refine .lib _ λg vs w k s=>?_;obtain⟨v,u,rfl,hv,hu⟩:=relvs2 k;cases hv;cases hu
 have hl:(List.replicate n c).length≤maxLen:=by rw[cE,zJ];omega
 rcases cG n 2 with h|h
 ·rcases(by omega:n=0∨n=1)with rfl|rfl
  ·refine(Tryz.strings_Repeat_zero ⟨[c].toArray⟩ w).mono ?_;rintro e w' ⟨rfl,rfl⟩;exact⟨_,rfl,.str [] aF,Below.refl _ _⟩
  refine(Tryz.strings_Repeat_one ⟨[c].toArray⟩ w).mono ?_;rintro e w' ⟨rfl,rfl⟩;exact⟨_,rfl,.str [c] hl,Below.refl _ _⟩
 refine(Tryz.strings_Repeat_main ⟨[c].toArray⟩ n w h aA (by show 1*n≤_;omega) (by show 0<1;omega)).mono ?_;rintro e w' ⟨rfl,hb⟩;refine⟨_,rfl,?_,hb⟩;have e:Lib.repeatL (⟨#[c]⟩:ByteArray).data.toList n=List.replicate n c:=atO c n;rw[e];exact .str _ hl
theorem repeatZ(c:UInt8)(q:Int)(n:Nat)(hq:q=(n:Int))(hn:n≤100000000):Fn 232 [.str [c],.int .i64 q] (.str (List.replicate n c)):=by
 intro H;subst hq;exact repeatA c n hn H
theorem trimLeftA(c:UInt8)(hc:c.toNat<128)(s:List UInt8):Fn 163 [.str s,.str [c]] (.str (s.dropWhile (·==c))):=by
 intro H;refine .lib _ λg vs w k st=>?_;obtain⟨v,u,rfl,hv,hu⟩:=relvs2 k;cases hv with|str _ hs=>?_
 cases hu
 refine(Tryz.strings_TrimLeft_one ⟨s.toArray⟩ c hc w).mono ?_;rintro e w' ⟨rfl,rfl⟩;exact⟨_,rfl,.str _ (aZ (eY _).length_le hs),Below.refl _ _⟩
theorem trimRightA(c:UInt8)(hc:c.toNat<128)(s:List UInt8):Fn 164 [.str s,.str [c]] (.str (Lib.trimRightB s c)):=by
 intro H;refine .lib _ λg vs w k st=>?_;obtain⟨v,u,rfl,hv,hu⟩:=relvs2 k;cases hv with|str _ hs=>?_
 cases hu
 refine(Tryz.strings_TrimRight_one ⟨s.toArray⟩ c hc w (by show s.toArray.size≤_;rw[zJ]at hs;simpa using hs)).mono ?_;rintro e w' ⟨rfl,rfl⟩;refine⟨_,rfl,.str _ (aZ ?_ hs),Below.refl _ _⟩;show(s.reverse.dropWhile (·==c)).reverse.length≤s.length;rw[gK];have:=(eY (l:=s.reverse) (·==c)).length_le
 rwa[gK]at this
theorem trimSetA(cs:List UInt8)(hc:∀b,b∈cs→b.toNat<128)(hcl:cs.length<1000)(s:List UInt8):Fn 259 [.str s,.str cs] (.str (Lib.trimS s cs)):=by
 intro H;refine .lib _ λg vs w k st=>?_;obtain⟨v,u,rfl,hv,hu⟩:=relvs2 k;cases hv with|str _ hs=>?_
 cases hu
 refine(Any.strings_Trim_laid Tryz.lays160 (by kernel_rfl) ⟨s.toArray⟩ ⟨cs.toArray⟩ w (by show s.toArray.size≤_;rw[zJ]at hs;simpa using hs) (by show cs.toArray.size<_;rw[eQ];omega) (λj b h=>hc b (fQ (by simpa using h)))).mono ?_;rintro e w' ⟨rfl,hb⟩;refine⟨_,rfl,.str _ (aZ ?_ hs),hb⟩;show((s.reverse.dropWhile (cs.contains ·)).reverse.dropWhile (cs.contains ·)).length≤s.length;have h1:=(eY (l:=(s.reverse.dropWhile (cs.contains ·)).reverse) (cs.contains ·)).length_le;have h2:=(eY (l:=s.reverse) (cs.contains ·)).length_le;rw[gK]at h1 h2;omega
theorem hasSuffixA(s p:List UInt8):Fn 222 [.str s,.str p] (.bool (Lib.hasSuffix s p)):=by
 intro H;refine .lib _ λg vs w k st=>?_;obtain⟨v,u,rfl,hv,hu⟩:=relvs2 k;cases hv with|str _ hs=>?_
 cases hu
 refine(Tryz.strings_HasSuffix ⟨s.toArray⟩ ⟨p.toArray⟩ w (by show s.toArray.size≤_;rw[zJ]at hs;simpa using hs)).mono ?_;rintro e w' ⟨rfl,rfl⟩;exact⟨_,rfl,.bool _,Below.refl _ _⟩
theorem compareA(s p:List UInt8):Fn 113 [.str s,.str p] (.int .i64 (Lib.compareBytes s p)):=by
 intro H;refine .lib _ λg vs w k st=>?_;obtain⟨v,u,rfl,hv,hu⟩:=relvs2 k;cases hv;cases hu
 refine(Tryz.strings_Compare ⟨s.toArray⟩ ⟨p.toArray⟩ w).mono ?_;rintro e w' ⟨rfl,rfl⟩;exact⟨_,rfl,.int _ _,Below.refl _ _⟩
section
open Go Go.RowKit
set_option maxRecDepth 100000
theorem ceF{a:Nat}{s:List UInt8}(hv:0<v)(h:dec a=if v=0 then s else dec v++s):
  dec a=if v/1000000000=0 then(if v/1000000000=0 then dec (v%1000000000)else List.replicate (9-(dec (v%1000000000)).length) 48++dec (v%1000000000))++s
   else dec (v/1000000000)++((if v/1000000000=0 then dec (v%1000000000)else List.replicate (9-(dec (v%1000000000)).length) 48++dec (v%1000000000))++s):=by
 rw[aI]at h;by_cases h0:v/1000000000=0
 ·rw[aN h0,aN h0,h,show v%1000000000=v by omega]
 rw[aL h0,aL h0,h,←aQ,←ceH aA]
theorem ckS{a:Nat}{s:List UInt8}(h:dec a=if v=0 then s else dec v++s):s.length≤(dec a).length:=by
 rw[h];split
 ·exact aV _
 rw[aP];omega
theorem bpW{xs:List Nat}:yX xs=0↔val xs=0:=⟨aaN,aaO⟩
theorem ccH(h:(dec (v%1000000000)).length≤9):(if v/1000000000=0 then dec (v%1000000000)else List.replicate (9-(dec (v%1000000000)).length) 48++dec (v%1000000000)).length≤9:=by
 split
 ·exact h
 rw[aP,cE];omega
theorem bbC{zs ws:List Nat}{m:Nat}(h:ws.length=m):(mid zs 0 ws).take m=ws:=by
 have:=bfE (zs:=zs) (o:=0) h (Nat.zero_le _)
 rwa[cU]at this
theorem biK(ws:List Nat):yX (ws.take (yX ws))=yX ws∧val (ws.take (yX ws))=val ws:=by
 induction ws with
 |nil=>exact⟨rfl,rfl⟩
 |cons x xs ih=>
  by_cases h:yX xs=0∧x=0
  ·rw[yX,aN h,fB];exact⟨rfl,by rw[val,val,aaN h.1,h.2]⟩
  rw[yX,aL h,List.take_succ_cons,yX,ih.1,aL h,val,val,ih.2];exact⟨rfl,rfl⟩
def cnE(a n b7:Nat)(H:Heap):Nat→Env→Heap→Prop:=λk env H1=>∃(m:Nat)(zs:List Nat)(s:List UInt8),m≤n∧zs.length=n∧Limbs zs∧yX (zs.take m)=m∧dec a=(if val (zs.take m)=0 then s else dec (val (zs.take m))++s)∧env=[(3,.mslice (some ⟨b7,0,none⟩) m n),(4,.str s)]∧H1=H.set b7 (.box 166 (U .u32 zs))∧k=val (zs.take m)
theorem bgU(a:Nat)(hx:a<BIG):Fn 277 [qL a] (.str (dec a)):=by
 intro H;have ha256:=yI hx;have hdl:=avG hx;refine .of_body func277 rfl ntmps277 results277 rfl ?_;refine AX ?_;refine AX ?_;refine .p rfl (zT (zO rfl)) ?_;refine .nil ?_;iterate 2 refine AX ?_
 refine AX ?_;refine .p rfl (zP (.tmp _ _ rfl)) ?_;refine .s rfl (zB C278 (.cons (.tmp _ _ rfl) .nil) (boX _ _ (zF _) aA _)) ?_;rintro _ _ ⟨b7,hb7,rfl,hH⟩;obtain rfl:=hH.symm;rw[zG];refine .p rfl (zT (.tmp _ _ rfl)) ?_;refine .nil ?_;iterate 3 refine AX ?_
 refine AX ?_;refine .p rfl (zP (.tmp _ _ rfl)) ?_;first|(refine .p rfl (anR U239 (.tmp _ _ rfl)) ?_)|(refine .p rfl (anS U239 (.tmp _ _ rfl)) ?_)|(refine .p rfl (aiK U239 (.tmp _ _ rfl)) ?_)
 refine .p rfl (aeE (.tmp _ _ rfl) (zR 0)) ?_;refine .nil ?_;refine AX ?_
 
 refine .cond (.tmp _ _ rfl) (λhc10=>?_) (λhc10=>?_)
 ·try simp only[aO]at hc10
  refine AX ?_;refine .frzU (t:=3) rfl hb7 (aV _) (aV _) (by simp only[zJ];omega) ?_;refine AX ?_;refine .p rfl (zT (zO rfl)) ?_;refine .nil ?_;iterate 3 refine AX ?_
  
  refine AX ?_;refine⟨?_,rfl⟩;have ha0:a=0:=by
   have h0:=zG a;rw[cF.1 (by omega:(zE a).length=0)]at h0;exact h0.symm
  rw[ha0];rfl
 try simp only[aM]at hc10
 have ha0:a≠0:=by rintro rfl;simp[aaX]at hc10
 iterate 3 refine AX ?_
 refine AX ?_;refine .p rfl (zT (zO rfl)) ?_;refine .nil ?_;refine AY ?_
 
 refine .loopW (cnE a (zE a).length b7 H) (a) ⟨(zE a).length,zE a,[],aV _,rfl,zF a,by rw[dK,ajF],by rw[dK,zG,aL ha0,bP],rfl,rfl,by rw[dK,zG]⟩ sX (hRa _) ?_;rintro _ _ _ ⟨m,zs,s,hm,hzl,hzL,hrm,hdec,rfl,rfl,hk⟩;have hsl:=ckS hdec;iterate 2 refine AX ?_
 refine AX ?_;refine .p rfl (zP (.tmp _ _ rfl)) ?_;first|(refine .p rfl (anR U239 (.tmp _ _ rfl)) ?_)|(refine .p rfl (anS U239 (.tmp _ _ rfl)) ?_)|(refine .p rfl (aiK U239 (.tmp _ _ rfl)) ?_)
 refine .p rfl (afS (.tmp _ _ rfl) (zR 0)) ?_;refine .nil ?_;refine AX ?_
 
 refine .cond (.tmp _ _ rfl) (λhc13=>?_) (λhc13=>?_)
 ·try simp only[aO]at hc13
  have hpos:0<val (zs.take m):=eI (λh=>by have:=aaO h;omega);iterate 4 refine AX ?_
  refine AX ?_;refine .p rfl (zP (.tmp _ _ rfl)) ?_;refine .s rfl (zB call317 (.cons (.tmp _ _ rfl) (.cons (zR 1000000000) .nil)) (asY b7 0 m (zE a).length 1000000000 aC aC zs hzL aA aA _ (oS _ _ _))) ?_;rintro _ _ ⟨rfl,ws,hwl,hwL,hwv,hH⟩;obtain rfl:=hH.symm;rw[sS];rw[cU]at *;generalize hv:val (zs.take m)=v at *;have hvm:=bU v (by decide:0<1000000000);have hpl:=(ahX (n:=v%1000000000) (k:=9) aC).2 hvm;have hrw:=bpW (xs:=ws);have hrl:=aaU ws;obtain⟨hrr,hrv⟩:=biK ws;rw[hwv]at hrw hrv;have hpt:=ccH hpl;have hrp:(List.replicate (9-(dec (v%1000000000)).length) (48:UInt8)).length=9-(dec (v%1000000000)).length:=cE;refine .p rfl (aaD U166 U3 (.tmp _ _ rfl) (wrapNI64 (by first|assumption|omega))) ?_;refine .s rfl (zB call109 (.cons (.tmp _ _ rfl) .nil) (itoaA _ aA _)) ?_;rintro _ _ ⟨rfl,hH⟩;obtain rfl:=hH.symm;refine .p rfl (zT (.tmp _ _ rfl)) ?_;refine .nil ?_;refine AX ?_;refine .seqToL [(3,.mslice (some ⟨b7,0,none⟩) (yX ws) (zE a).length),(5,.str (if v/1000000000=0 then dec (v%1000000000)else List.replicate (9-(dec (v%1000000000)).length) 48++dec (v%1000000000)))] [4] ?_ ?_
  ·refine AX ?_;refine AX ?_;refine .p rfl (zP (.tmp _ _ rfl)) ?_;refine .s rfl (zB C311 (.cons (.tmp _ _ rfl) .nil) (bsS b7 m (zE a).length (mid zs 0 ws) (afC hzL hwL) (by rw[agQ hwl aA];omega) aA hm _ (oS _ _ _))) ?_;rintro _ _ ⟨rfl,hH⟩;obtain rfl:=hH.symm;rw[bbC hwl];refine .p rfl (zT (.tmp _ _ rfl)) ?_;refine .nil ?_;iterate 2 refine AX ?_
   refine AX ?_;refine .p rfl (zP (.tmp _ _ rfl)) ?_;first|(refine .p rfl (anR U239 (.tmp _ _ rfl)) ?_)|(refine .p rfl (anS U239 (.tmp _ _ rfl)) ?_)|(refine .p rfl (aiK U239 (.tmp _ _ rfl)) ?_)
   refine .p rfl (afS (.tmp _ _ rfl) (zR 0)) ?_;refine .nil ?_;refine AX ?_
   
   refine .cond (.tmp _ _ rfl) (λhc22=>?_) (λhc22=>?_)
   ·try simp only[aO]at hc22
    refine AX ?_;refine .p rfl (zP (.tmp _ _ rfl)) ?_;refine .p rfl (atY U9 (.tmp _ _ rfl)) ?_;refine .p rfl (adK (zR 9) (.tmp _ _ rfl) aA) ?_;refine .s rfl (zB C232 (.cons (zO rfl) (.cons (.tmp _ _ rfl) .nil)) (repeatZ 48 _ (9-(dec (v%1000000000)).length) aA aA _)) ?_;rintro _ _ ⟨rfl,hH⟩;obtain rfl:=hH.symm;refine .p rfl (zP (.tmp _ _ rfl)) ?_;refine .p rfl (zS (.tmp _ _ rfl) (.tmp _ _ rfl) (by simp only[zJ]at *;omega)) ?_;refine .p rfl (zT (.tmp _ _ rfl)) ?_;refine .nil ?_;exact⟨rfl,(zM rfl (by first|rfl|(rw[aI])|(rw[aJ])) (zM rfl (by first|rfl|(rw[aI])|(rw[aJ])) (zI rfl yJ))),rfl⟩
   try simp only[aM,cO]at hc22
   refine AX ?_;exact⟨rfl,(zM rfl (by first|rfl|(rw[aI])|(rw[aJ])) (zM rfl (by first|rfl|(rw[aI])|(rw[aJ])) (zI rfl yJ))),rfl⟩
  refine .sub [(3,_),(5,_),(4,_)] sX ?_;refine AX ?_;refine .p rfl (zP (.tmp _ _ rfl)) ?_;refine .p rfl (zP (.tmp _ _ rfl)) ?_;refine .p rfl (zS (.tmp _ _ rfl) (.tmp _ _ rfl) (by simp only[zJ]at *;omega)) ?_;refine .p rfl (zT (.tmp _ _ rfl)) ?_;refine .nil ?_;refine AY ?_;have htt:(mid zs 0 ws).take (yX ws)=ws.take (yX ws):=by rw[←bbC (zs:=zs) hwl,List.take_take,bbC hwl,dN aA]
  refine Round.mk ⟨yX ws,mid zs 0 ws,_,by omega,(agQ hwl aA).trans hzl,afC hzL hwL,by rw[htt];exact hrr,by rw[htt,hrv];exact ceF hpos hdec,rfl,rfl,by rw[htt,hrv]⟩ sX (hRa _) aA
 try simp only[aM,cO]at hc13
 iterate 6 refine AX ?_
 refine .frzU (t:=3) rfl hb7 aA hm (by simp only[zJ];omega) ?_;refine AX ?_;refine .p rfl (zP (.tmp _ _ rfl)) ?_;refine .p rfl (zT (.tmp _ _ rfl)) ?_;refine .nil ?_;iterate 2 refine AX ?_
 
 refine AX ?_;refine⟨?_,rfl⟩;have hm0:m=0:=by omega
 rw[hm0,fB]at hdec;rw[show dec a=s from hdec.trans (aN rfl)];rfl
end
def isD(b:UInt8):Prop:=48≤b.toNat∧b.toNat≤57
def Digs(l:List UInt8):Prop:=∀b,b∈l→isD b
def bgZ(acc:Nat)(l:List UInt8):Nat:=l.foldl (λa c=>a*10+(c.toNat-48)) acc
theorem arU(acc:Nat):bgZ acc []=acc:=rfl
theorem aeG(acc:Nat)(c:UInt8)(r:List UInt8):bgZ acc (c::r)=bgZ (acc*10+(c.toNat-48)) r:=by unfold bgZ;rw[List.foldl_cons]
def num(l:List UInt8):Nat:=bgZ 0 l
theorem auI:∀(l:List UInt8)(acc:Nat),bgZ acc l=acc*10^l.length+num l
 | [],acc=>by rw[num,arU,arU];simp
 |c::r,acc=>by
  rw[num,aeG,aeG,auI r (acc*10+(c.toNat-48)),auI r (0*10+(c.toNat-48)),aX,bQ,bT,dV,bZ,bH,bK 10];omega
theorem ayF(a b:List UInt8):num (a++b)=num a*10^b.length+num b:=by
 have h:∀(a:List UInt8)(acc:Nat),bgZ acc (a++b)=bgZ (bgZ acc a) b:=by
  intro a;induction a with
  |nil=>intro acc;rfl
  |cons c r ih=>intro acc;rw[cR,aeG,aeG,ih]
 rw[num,h,auI];rfl
theorem baZ(c:UInt8)(r:List UInt8):num (c::r)=(c.toNat-48)*10^r.length+num r:=by
 rw[num,aeG,auI,dV,bZ]
theorem aiN:∀{l:List UInt8},Digs l→num l<10^l.length
 | [],_=>by rw[num,arU];simp
 |c::r,h=>by
  have h1:=aiN (l:=r) λb hb=>h b (by simp[hb]);have h2:=h c aF;rw[baZ,aX,bQ];have h3:(c.toNat-48)*10^r.length≤9*10^r.length:=bC _ (by have:=h2.2;omega);omega
theorem bwT(acc:Nat)(l:List UInt8):acc≤bgZ acc l:=by
 rw[auI];have:acc*1≤acc*10^l.length:=bV _ (bO aC);omega
theorem ayD:∀(l:List UInt8)(acc:Nat),Digs l→bgZ acc l<18446744073709551616→Lib.parseUint10 acc l= .ok (bgZ acc l)
 | [],acc,_,_=>rfl
 |c::r,acc,h,hl=>by
  rw[aeG]at hl ⊢;have h1:=bwT (acc*10+(c.toNat-48)) r;have h2:=h c aF;unfold Lib.parseUint10;rw[aN (show 48≤c.toNat∧c.toNat≤57 from h2),aI,aI];exact ayD r _ (λb hb=>h b (by simp[hb])) hl
theorem Digs.take(h:Digs l)(n:Nat):Digs (l.take n):=λb hb=>h b (gF hb)
theorem Digs.drop(h:Digs l)(n:Nat):Digs (l.drop n):=λb hb=>h b (List.mem_of_mem_drop hb)
theorem Digs.dropWhile(h:Digs l)(q:UInt8→Bool):Digs (l.dropWhile q):=λb hb=>h b ((eY q).subset hb)
theorem bkY(hne:l≠[])(h:Digs l)(hl:l.length≤18):Lib.atoiAll l= .ok (num l:Int):=by
 have h1:=aiN h;have h2:10^l.length≤10^18:=aW aC hl;have h3:=ayD l 0 h (by rw[show bgZ 0 l=num l from rfl];omega);cases l with
 |nil=>exact absurd rfl hne
 |cons c r=>
  have h4:=h c aF;have h4a:=h4.1;unfold Lib.atoiAll;simp only[];rw[aI];unfold Lib.parseMag;rw[aL aF,h3];simp only[];rw[aL (by rintro⟨_,hb⟩;rw[show bgZ 0 (c::r)=num (c::r)from rfl]at hb;omega),aL (by rintro⟨hb,_⟩;omega),aI];rfl
theorem atoiA(s:List UInt8)(hne:s≠[])(h:Digs s)(hl:s.length≤18):Fn 257 [.str s] (.tuple [.int .i64 (num s:Int),.nilIface]):=by
 intro H;refine .lib _ λg vs w k st=>?_;obtain⟨v,rfl,hv⟩:=relvs1 k;cases hv
 refine(Tryz.strconv_Atoi_ok ⟨s.toArray⟩ (by show s.toArray.size≤_;rw[eQ];omega) _ (bkY hne h hl) w).mono ?_;rintro e w' ⟨rfl,hw⟩;refine⟨_,rfl,.tuple _ _ rfl (λi c v hc hv=>?_),?_⟩
 ·match i with
  |0=>cases hc;cases hv;exact .int _ _
  |1=>cases hc;cases hv;exact .nilIface
  |i+2=>simp at hc
 rcases hw with rfl|⟨t,rfl⟩
 ·exact Below.refl _ _
 exact Lib.bytesWorld_below _ _ _
theorem asG(n:Nat):Digs (dec n):=by
 have hd:∀m,m<10→isD (dgt m):=λm hm=>by
  unfold isD dgt;rw[fN];omega
 induction n using Nat.strongRecOn with
 |ind n ih=>
  rcases cG n 10 with h|h
  ·rw[aoK h];intro b hb;rw[List.mem_singleton.1 hb];exact hd n h
  rw[arD h];intro b hb;rcases dP.1 hb with hb|hb
  ·exact ih _ aA b hb
  rw[List.mem_singleton.1 hb];exact hd _ (bU _ aC)
def dA(neg:Bool)(ds:List UInt8)(e:Int):AV:=.agg [.bool neg,.str ds,.int .i64 e]
def ayX(ds:List UInt8):Bool:=ds.all λb=>decide (48≤b.toNat)&&decide (b.toNat≤57)
theorem aeX{ds:List UInt8}:ayX ds=true↔Digs ds:=by
 unfold ayX Digs isD;simp[fM]
def qE(ds:List UInt8)(e:Int):Bool:=
 if ds=[]then decide (e=0)else
 decide (ds.length≤1100)&&decide (-100000≤e)&&decide (e≤100000)&&ayX ds&& !decide ((ds.getD 0 0)=48)&& !decide ((ds.getD (ds.length-1) 0)=48)
def bfG(ds:List UInt8):List UInt8:=ds.dropWhile (·==48)
def adR(ds:List UInt8):List UInt8:=Lib.trimRightB (bfG ds) 48
def anX(ds:List UInt8):Nat:=(bfG ds).length-(adR ds).length
def okD(ds:List UInt8)(e:Int):Prop:=(adR ds).length≤1100∧ -100000≤e+anX ds∧e+anX ds≤100000
instance (ds:List UInt8) (e:Int):Decidable (okD ds e):=inferInstanceAs (Decidable (_∧_∧_))
def mkN(neg:Bool)(ds:List UInt8)(e:Int):(Bool×List UInt8×Int)×Int:=
 if adR ds=[]then((neg,[],0),0)else if okD ds e then((neg,adR ds,e+anX ds),0)else((false,[],0),2)
def dT(d:(Bool×List UInt8×Int)×Int):AV:=.tuple [dA d.1.1 d.1.2.1 d.1.2.2,.int .i64 d.2]
theorem amA(l:List UInt8)(c:UInt8):∃n,l=Lib.trimRightB l c++List.replicate n c:=by
 unfold Lib.trimRightB;have h:∀m:List UInt8,∃n,m=List.replicate n c++m.dropWhile (·==c):=by
  intro m;induction m with
  |nil=>exact⟨0,rfl⟩
  |cons x m ih=>
   rw[eF];split
   ·rename_i hx
    obtain⟨n,hn⟩:=ih;have hx':x=c:=by simpa using hx
    refine⟨n+1,?_⟩;rw[List.replicate_succ,cR,←hn,hx']
   exact⟨0,rfl⟩
 obtain⟨n,hn⟩:=h l.reverse;refine⟨n,?_⟩;have:=congrArg List.reverse hn;rw[List.reverse_reverse,List.reverse_append,List.reverse_replicate]at this;exact this
theorem ajX(l:List UInt8)(c:UInt8):(Lib.trimRightB l c).length≤l.length:=by
 obtain⟨n,hn⟩:=amA l c;have:=congrArg List.length hn;rw[aP]at this;omega
theorem avE(l:List UInt8)(c:UInt8):(l.dropWhile (·==c)).length≤l.length:=(eY _).length_le
theorem axA(h:Lib.trimRightB l c≠[]):(Lib.trimRightB l c).getD ((Lib.trimRightB l c).length-1) 0≠c:=by
 unfold Lib.trimRightB at h ⊢;have hh:l.reverse.dropWhile (·==c)≠[]:=by simpa using h
 have h1:∀m:List UInt8,m.dropWhile (·==c)≠[]→∃x r,m.dropWhile (·==c)=x::r∧x≠c:=by
  intro m;induction m with
  |nil=>intro h;exact absurd rfl h
  |cons x m ih=>
   intro h;rw[eF]at h ⊢;split
   ·rename_i hx;rw[aN hx]at h;exact ih h
   rename_i hx;exact⟨x,m,rfl,by simpa using hx⟩
 obtain⟨x,r,hx,hne⟩:=h1 _ hh;rw[hx];simp;exact hne
theorem bsO(h:l.dropWhile (·==c)≠[]):(l.dropWhile (·==c)).getD 0 0≠c:=by
 induction l with
 |nil=>exact absurd rfl h
 |cons x m ih=>
  rw[eF]at h ⊢;split
  ·rename_i hx;rw[aN hx]at h;exact ih h
  rename_i hx;simpa using hx
theorem Digs.trimR(h:Digs l)(c:UInt8):Digs (Lib.trimRightB l c):=λb hb=>by
 obtain⟨n,hn⟩:=amA l c;exact h b (by rw[hn];simp[hb])
theorem bpI(h:Lib.trimRightB l c≠[]):(Lib.trimRightB l c).getD 0 0=l.getD 0 0:=by
 obtain⟨n,hn⟩:=amA l c;cases ht:Lib.trimRightB l c with
 |nil=>exact absurd ht h
 |cons x r=>rw[ht]at hn;rw[hn];rfl
theorem apV{ds:List UInt8}(hd:Digs ds)(h:adR ds≠[]){e:Int}:qE (adR ds) e=(decide ((adR ds).length≤1100)&&decide (-100000≤e)&&decide (e≤100000)):=by
 unfold qE;rw[aL h];have h1:ayX (adR ds)=true:=aeX.2 ((hd.dropWhile _).trimR _);have h2:(adR ds).getD ((adR ds).length-1) 0≠48:=axA h;have h3:(adR ds).getD 0 0≠48:=by
  unfold adR;rw[bpI h];refine bsO λh0=>h ?_;unfold adR bfG;rw[h0];rfl
 rw[h1,bB h2,bB h3];simp
theorem alC{neg:Bool}{ds:List UInt8}{e:Int}(hd:Digs ds):qE (mkN neg ds e).1.2.1 (mkN neg ds e).1.2.2=true:=by
 unfold mkN;split
 ·rfl
 rename_i h
 split
 ·rename_i h2
  obtain⟨h3,h4,h5⟩:=h2;show qE (adR ds) (e+anX ds)=true;rw[apV hd h];simp[h3,h4,h5]
 rfl
theorem qJ{ds:List UInt8}{e:Int}(h:qE ds e=true):Digs ds:=by
 unfold qE at h;split at h
 ·rename_i h0;rw[h0];intro b hb;simp at hb
 simp only[bL]at h;exact aeX.1 h.1.1.2
theorem qT{ds:List UInt8}{e:Int}(h:qE ds e=true):ds.length≤1100∧ -100000≤e∧e≤100000:=by
 unfold qE at h;split at h
 ·rename_i h0
  have:e=0:=by simpa using h
  rw[h0,this];simp
 simp only[bL,aO]at h;exact⟨h.1.1.1.1.1,h.1.1.1.1.2,h.1.1.1.2⟩
section
open Go Go.RowKit
def zK(x:Nat):Nat:=
 if x/4503599627370496%2048=2047 then(if x%4503599627370496=0 then 3 else 4)
 else if x/4503599627370496%2048=0 then(if x%4503599627370496=0 then 0 else 1)else 2
def yF(x:Nat):Nat:=if zK x≤1 then x%4503599627370496 else if zK x=2 then 4503599627370496+x%4503599627370496 else 0
def yG(x:Nat):Int:=if zK x≤1 then-1074 else if zK x=2 then((x/4503599627370496%2048:Nat):Int)-1075 else 0
def aeK(x:Nat):Bool:=decide ((9223372036854775808:Int)≤(x:Int))
theorem bbZ(x:Nat):x&&&2047=x%2048:=dC x 11
theorem boS(x:Nat):x&&&4503599627370495=x%4503599627370496:=dC x 52
theorem cmL{f:Nat}(h:f<4503599627370496):4503599627370496|||f=4503599627370496+f:=by
 have:=Nat.two_pow_add_eq_or_of_lt (i:=52) h 1;simp at this;omega
theorem qD(x:Nat):yF x<9007199254740992:=by
 unfold yF;split
 ·omega
 split<;>omega
theorem yM(x:Nat): -1075≤yG x∧yG x≤972:=by
 unfold yG;split
 ·omega
 split<;>omega
theorem aaF(x:Nat):zK x≤4:=by
 unfold zK;split
 ·split<;>omega
 split
 ·split<;>omega
 omega
end
section
open Go Go.RowKit
set_option maxRecDepth 100000
theorem aaA(x:Nat)(hx:x<18446744073709551616):Fn 89 [.int .u64 (x:Int)] (.int .i64 (zK x:Int)):=by
 intro H;have hp:(2:Nat)^52=4503599627370496:=by decide
 refine .of_body func89 rfl ntmps89 results89 rfl ?_;iterate 9 refine AX ?_
 iterate 2 refine AM ?_
 refine AX ?_;refine AM ?_;iterate 6 refine AX ?_
 rw[bbZ,boS,hp];iterate 2 refine AX ?_
 refine AM ?_;refine AX ?_;refine zC (t:=13) rfl (λhg13=>?_) (λhg13=>?_)
 ·have hh13:=hg13;try simp only[aO]at hh13
  refine AX ?_;refine AM ?_;refine AY ?_;refine .cx rfl (λhc10=>?_) (λhc10=>?_)
  ·refine AY ?_;refine⟨?_,rfl⟩;simp only[yD,zK];congr 1
   (repeat' split)<;>first|rfl|omega
  iterate 3 refine AX ?_
  refine AM ?_;refine AY ?_;refine .cx rfl (λhc17=>?_) (λhc17=>?_)
  ·refine AY ?_;refine⟨?_,rfl⟩;simp only[yD,zK];congr 1
   (repeat' split)<;>first|rfl|omega
  iterate 3 refine AX ?_
  refine AM ?_;refine AY ?_;refine .cx rfl (λhc20=>?_) (λhc20=>?_)
  ·refine AY ?_;refine⟨?_,rfl⟩;simp only[yD,zK];congr 1
   (repeat' split)<;>first|rfl|omega
  iterate 3 refine AX ?_
  refine AM ?_;refine AY ?_;refine .cx rfl (λhc23=>?_) (λhc23=>?_)
  ·refine AY ?_;refine⟨?_,rfl⟩;simp only[yD,zK];congr 1
   (repeat' split)<;>first|rfl|omega
  refine AY ?_;refine⟨?_,rfl⟩;simp only[yD,zK];congr 1
  (repeat' split)<;>first|rfl|omega
 have hh13:=hg13;try simp only[aM]at hh13
 refine AY ?_;refine .cond_false (tm rfl) aD ?_;iterate 3 refine AX ?_
 refine AM ?_;refine AY ?_;refine .cx rfl (λhc17=>?_) (λhc17=>?_)
 ·refine AY ?_;refine⟨?_,rfl⟩;simp only[yD,zK];congr 1
  (repeat' split)<;>first|rfl|omega
 iterate 3 refine AX ?_
 refine AM ?_;refine AY ?_;refine .cx rfl (λhc20=>?_) (λhc20=>?_)
 ·refine AY ?_;refine⟨?_,rfl⟩;simp only[yD,zK];congr 1
  (repeat' split)<;>first|rfl|omega
 iterate 3 refine AX ?_
 refine AM ?_;refine AY ?_;refine .cx rfl (λhc23=>?_) (λhc23=>?_)
 ·refine AY ?_;refine⟨?_,rfl⟩;simp only[yD,zK];congr 1
  (repeat' split)<;>first|rfl|omega
 refine AY ?_;refine⟨?_,rfl⟩;simp only[yD,zK];congr 1
 (repeat' split)<;>first|rfl|omega
theorem qA(x:Nat)(hx:x<18446744073709551616):Fn 25 [.int .u64 (x:Int)] (.int .i64 (zK x:Int)):=by
 intro H;have hp:(2:Nat)^52=4503599627370496:=by decide
 refine .of_body func25 rfl ntmps25 results25 rfl ?_;iterate 8 refine AX ?_
 iterate 2 refine AM ?_
 refine AY ?_;refine AM ?_;iterate 6 refine AX ?_
 rw[hp];iterate 2 refine AX ?_
 refine AM ?_;refine AX ?_;refine zC (t:=13) rfl (λhg13=>?_) (λhg13=>?_)
 ·have hh13:=hg13;try simp only[aO]at hh13
  refine AX ?_;refine AM ?_;refine AY ?_;refine .cx rfl (λhc10=>?_) (λhc10=>?_)
  ·refine AY ?_;refine⟨?_,rfl⟩;simp only[yD,zK];congr 1
   (repeat' split)<;>first|rfl|omega
  iterate 3 refine AX ?_
  refine AM ?_;refine AY ?_;refine .cx rfl (λhc17=>?_) (λhc17=>?_)
  ·refine AY ?_;refine⟨?_,rfl⟩;simp only[yD,zK];congr 1
   (repeat' split)<;>first|rfl|omega
  iterate 3 refine AX ?_
  refine AM ?_;refine AX ?_;refine zC (t:=23) rfl (λhg23=>?_) (λhg23=>?_)
  ·have hh23:=hg23;try simp only[aO]at hh23
   refine AX ?_;refine AM ?_;refine AY ?_;refine .cx rfl (λhc20=>?_) (λhc20=>?_)
   ·refine AY ?_;refine⟨?_,rfl⟩;simp only[yD,zK];congr 1
    (repeat' split)<;>first|rfl|omega
   iterate 3 refine AX ?_
   refine AM ?_;refine AY ?_;refine .cx rfl (λhc27=>?_) (λhc27=>?_)
   ·refine AY ?_;refine⟨?_,rfl⟩;simp only[yD,zK];congr 1
    (repeat' split)<;>first|rfl|omega
   refine AY ?_;refine⟨?_,rfl⟩;simp only[yD,zK];congr 1
   (repeat' split)<;>first|rfl|omega
  have hh23:=hg23;try simp only[aM]at hh23
  refine AY ?_;refine .cond_false (tm rfl) aD ?_;iterate 3 refine AX ?_
  refine AM ?_;refine AY ?_;refine .cx rfl (λhc27=>?_) (λhc27=>?_)
  ·refine AY ?_;refine⟨?_,rfl⟩;simp only[yD,zK];congr 1
   (repeat' split)<;>first|rfl|omega
  refine AY ?_;refine⟨?_,rfl⟩;simp only[yD,zK];congr 1
  (repeat' split)<;>first|rfl|omega
 have hh13:=hg13;try simp only[aM]at hh13
 refine AY ?_;refine .cond_false (tm rfl) aD ?_;iterate 3 refine AX ?_
 refine AM ?_;refine AY ?_;refine .cx rfl (λhc17=>?_) (λhc17=>?_)
 ·refine AY ?_;refine⟨?_,rfl⟩;simp only[yD,zK];congr 1
  (repeat' split)<;>first|rfl|omega
 iterate 3 refine AX ?_
 refine AM ?_;refine AX ?_;refine zC (t:=23) rfl (λhg23=>?_) (λhg23=>?_)
 ·have hh23:=hg23;try simp only[aO]at hh23
  refine AX ?_;refine AM ?_;refine AY ?_;refine .cx rfl (λhc20=>?_) (λhc20=>?_)
  ·refine AY ?_;refine⟨?_,rfl⟩;simp only[yD,zK];congr 1
   (repeat' split)<;>first|rfl|omega
  iterate 3 refine AX ?_
  refine AM ?_;refine AY ?_;refine .cx rfl (λhc27=>?_) (λhc27=>?_)
  ·refine AY ?_;refine⟨?_,rfl⟩;simp only[yD,zK];congr 1
   (repeat' split)<;>first|rfl|omega
  refine AY ?_;refine⟨?_,rfl⟩;simp only[yD,zK];congr 1
  (repeat' split)<;>first|rfl|omega
 have hh23:=hg23;try simp only[aM]at hh23
 refine AY ?_;refine .cond_false (tm rfl) aD ?_;iterate 3 refine AX ?_
 refine AM ?_;refine AY ?_;refine .cx rfl (λhc27=>?_) (λhc27=>?_)
 ·refine AY ?_;refine⟨?_,rfl⟩;simp only[yD,zK];congr 1
  (repeat' split)<;>first|rfl|omega
 refine AY ?_;refine⟨?_,rfl⟩;simp only[yD,zK];congr 1
 (repeat' split)<;>first|rfl|omega
theorem adB(x:Nat)(hx:x<18446744073709551616):Fn 124 [.int .u64 (x:Int)] (.bool (aeK x)):=by
 intro H;refine .of_body func124 rfl ntmps124 results124 rfl ?_;iterate 8 refine AX ?_
 refine AM ?_;refine AY ?_;exact⟨rfl,rfl⟩
theorem acM(x:Nat)(hx:x<18446744073709551616):Fn 181 [.int .u64 (x:Int)] (.tuple [.bool (aeK x),.int .u64 ((yF x:Nat):Int),.int .i64 (yG x)]):=by
 intro H;have hp:(2:Nat)^52=4503599627370496:=by decide
 have hk:=aaF x;have hml:=bU x (by decide:0<4503599627370496);have hor:=cmL hml;have hbb:=bbZ (x/2^52);refine .of_body func181 rfl ntmps181 results181 rfl ?_;iterate 3 refine AX ?_
 refine AM ?_;iterate 6 refine AX ?_
 refine AM ?_;refine AX ?_;refine AM ?_;iterate 6 refine AX ?_
 rw[boS];refine AY ?_;refine .cl rfl C89 (evs1 rfl) (aaA _ aB _) ?_;iterate 3 refine AX ?_
 refine .seqToL [(13,.bool (decide (zK x≤1)))] [0,2,3,4,5,6,12] ?_ ?_
 ·refine AY ?_;refine .cx rfl (λhc13=>?_) (λhc13=>?_)
  ·refine AX ?_;exact⟨rfl,(zM rfl (by congr 1;symm;first|(exact aY aA)|(by_cases h:zK x≤1<;>simp[h]<;>omega)) sX),rfl⟩
  refine AY ?_;exact⟨rfl,(zM rfl (by congr 1;symm;first|(exact aY aA)|(by_cases h:zK x≤1<;>simp[h]<;>omega)) sX),rfl⟩
 refine .sub [(13,_),(0,_),(2,_),(3,_),(4,_),(5,_),(6,_),(12,_)] sX ?_;refine .cx rfl (λhc13=>?_) (λhc13=>?_)
 ·refine AY ?_;refine⟨?_,rfl⟩;simp only[yD,yF,yG];rw[aJ,aJ]<;>rfl
 refine AY ?_;refine .cx rfl (λhc18=>?_) (λhc18=>?_)
 ·refine AY ?_;refine AM ?_;refine AX ?_;iterate 2 refine AM ?_
  refine AY ?_;refine⟨?_,rfl⟩;simp only[yD,yF,yG];rw[aI,aJ,aI,aJ,hor,bbZ,hp]<;>rfl
 iterate 7 refine AX ?_
 refine AM ?_;refine AY ?_;refine⟨?_,rfl⟩;simp only[yD,yF,yG];rw[aI,aI,aI,aI]<;>rfl
theorem abO(x:Nat)(hx:x<18446744073709551616):Fn 129 [.int .u64 (x:Int)] (.tuple [.bool (aeK x),.int .u64 ((yF x:Nat):Int),.int .i64 (yG x)]):=by
 intro H;have hp:(2:Nat)^52=4503599627370496:=by decide
 have hk:=aaF x;refine .of_body func129 rfl ntmps129 results129 rfl ?_;iterate 3 refine AX ?_
 refine AM ?_;refine AY ?_;refine .cl rfl C25 (evs1 rfl) (qA _ aB _) ?_;iterate 3 refine AX ?_
 refine .seqToL [(7,.bool (decide (zK x≤1)))] [0,2,3,4,6] ?_ ?_
 ·refine AY ?_;refine .cx rfl (λhc7=>?_) (λhc7=>?_)
  ·refine AX ?_;exact⟨rfl,(zM rfl (by congr 1;symm;first|(exact aY aA)|(by_cases h:zK x≤1<;>simp[h]<;>omega)) sX),rfl⟩
  refine AY ?_;exact⟨rfl,(zM rfl (by congr 1;symm;first|(exact aY aA)|(by_cases h:zK x≤1<;>simp[h]<;>omega)) sX),rfl⟩
 refine .sub [(7,_),(0,_),(2,_),(3,_),(4,_),(6,_)] sX ?_;refine .cx rfl (λhc7=>?_) (λhc7=>?_)
 ·refine AY ?_;refine .cl rfl C124 (evs1 rfl) (adB _ aB _) ?_;refine AX ?_;refine AM ?_;refine AY ?_;refine⟨?_,rfl⟩;simp only[yD,yF,yG];rw[aJ,aJ]<;>rfl
 refine AY ?_;refine .cx rfl (λhc14=>?_) (λhc14=>?_)
 ·refine AY ?_;refine .cl rfl C124 (evs1 rfl) (adB _ aB _) ?_;refine AX ?_;iterate 2 refine AM ?_
  refine AX ?_;iterate 2 refine AM ?_
  refine AY ?_;refine⟨?_,rfl⟩;simp only[yD,yF,yG];rw[aI,aJ,aI,aJ,hp]<;>rfl
 refine AY ?_;refine .cl rfl C124 (evs1 rfl) (adB _ aB _) ?_;refine AX ?_;refine AM ?_;refine AY ?_;refine⟨?_,rfl⟩;simp only[yD,yF,yG];rw[aI,aI,aI,aI]<;>rfl
end
end Go.Proofs.YtmmgbnolccpjoaaGreatDoor
