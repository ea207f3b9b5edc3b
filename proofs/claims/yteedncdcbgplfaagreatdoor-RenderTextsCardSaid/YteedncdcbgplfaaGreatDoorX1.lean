import Derived.Test.YteedncdcbgplfaaGreatDoorN2
import Derived.Test.YteedncdcbgplfaaGreatDoorLsk
import Derived.Shelf.Strings.SlTrimAscii
set_option maxHeartbeats 1000000
namespace Go.Proofs.YteedncdcbgplfaaGreatDoor
open Go.Proofs.Tryz
open Go Go.RowKit Go.Shelf
variable{v:Nat}{l:List UInt8}{c:UInt8}
theorem relvs1{g:G}{x:AV}{vs:List Value}(h:RelVs g [x] vs):∃v,vs=[v]∧RelV g x v:=by
 obtain⟨hl,hr⟩:=h
 match vs,hl with
 | [v],_=>exact⟨v,rfl,hr 0 _ _ rfl rfl⟩
theorem relvs2{g:G}{x y:AV}{vs:List Value}(h:RelVs g [x,y] vs):∃v u,vs=[v,u]∧RelV g x v∧RelV g y u:=by
 obtain⟨hl,hr⟩:=h
 match vs,hl with
 | [v,u],_=>exact⟨v,u,rfl,hr 0 _ _ rfl rfl,hr 1 _ _ rfl rfl⟩
theorem ACall.lib{P:Program}{f:FuncId}{xs:List AV}{H:Heap}(y:AV)(h:∀g vs w,RelVs g xs vs→Sat g H w→Calls P f vs.toArray w (λe w'=>∃v,e= .returned v∧RelV g y v∧Below w.heap.size w w')):ACall P f xs H (λz H'=>z=y∧H'=H):=
 λg vs w k s=>(h g vs w k s).mono λ_ _ ⟨v,he,hr,hb⟩=>⟨v,he,g,y,H,.id,hr,s.grow hb,rfl,rfl⟩
theorem azO(B:Nat)(w:World)(n:Nat)(os:Array Obj)(h:B≤w.heap.size):Below B w (Sort.grow (w.drewN n) os):=
 ⟨rfl,rfl,rfl,by simp[Sort.grow,World.drewN],λk hk=>by simp[Sort.grow,World.drewN,dZ,cS hk h]⟩
theorem Sat.tab{g:G}{H:Heap}{w:World}(s:Sat g H w):Lib.TabIs prog w "internal/strconv.uint64pow10" .u64 Lib.pow10Tab:=by
 obtain⟨t,f,h⟩:=g.hinv.tab;have hlt:7<g.base.heap.size:=(bI.1 h).1;have h2:w.heap[7]?=some (.cells (Lib.pow10Tab.map λz=>Value.int .u64 z).toArray t f):=(s.below.block 7 hlt).trans h;have hn:prog.globalNamed "internal/strconv.uint64pow10"=some 7:=by kernel_rfl
 unfold Lib.TabIs World.var?;rw[hn,Option.bind_some,h2]
theorem itoaA(n:Nat)(hn:n≤9223372036854775807):Fn 90 [.int .i64 (n:Int)] (.str (dec n)):=by
 intro H;refine .lib _ λg vs w k s=>?_;obtain⟨v,rfl,hv⟩:=relvs1 k;cases hv
 refine(Tryz.strconv_Itoa (n:Int) aA aA w s.tab).mono ?_;rintro e w' ⟨rfl,q,os,rfl⟩;refine⟨_,rfl,?_,azO _ _ _ _ (bA _)⟩;rw[bhO];refine .str _ ?_;have:(dec n).length≤20:=(aeR aC).2 (bG hn aC);rw[zT];omega
theorem akS(c:UInt8):∀n,Lib.repeatL [c] n=List.replicate n c
 |0=>rfl
 |n+1=>by rw[Lib.repeatL,akS c n,eI];rfl
theorem repeatA(c:UInt8)(n:Nat)(hn:n≤100000000):Fn 103 [.str [c],.int .i64 (n:Int)] (.str (List.replicate n c)):=by
 intro H;refine .lib _ λg vs w k s=>?_;obtain⟨v,u,rfl,hv,hu⟩:=relvs2 k;cases hv;cases hu
 have hl:(List.replicate n c).length≤maxLen:=by rw[aZ,zT];omega
 rcases bO n 2 with h|h
 ·rcases(by omega:n=0∨n=1)with rfl|rfl
  ·refine(Tryz.strings_Repeat_zero ⟨[c].toArray⟩ w).mono ?_;rintro e w' ⟨rfl,rfl⟩;exact⟨_,rfl,.str [] aF,Below.refl _ _⟩
  refine(Tryz.strings_Repeat_one ⟨[c].toArray⟩ w).mono ?_;rintro e w' ⟨rfl,rfl⟩;exact⟨_,rfl,.str [c] hl,Below.refl _ _⟩
 refine(Tryz.strings_Repeat_main ⟨[c].toArray⟩ n w h aA (by show 1*n≤_;omega) (by show 0<1;omega)).mono ?_;rintro e w' ⟨rfl,hb⟩;refine⟨_,rfl,?_,hb⟩;have e:Lib.repeatL (⟨#[c]⟩:ByteArray).data.toList n=List.replicate n c:=akS c n;rw[e];exact .str _ hl
theorem repeatZ(c:UInt8)(q:Int)(n:Nat)(hq:q=(n:Int))(hn:n≤100000000):Fn 103 [.str [c],.int .i64 q] (.str (List.replicate n c)):=by
 intro H;subst hq;exact repeatA c n hn H
theorem trimLeftA(c:UInt8)(hc:c.toNat<128)(s:List UInt8):Fn 108 [.str s,.str [c]] (.str (s.dropWhile (·==c))):=by
 intro H;refine .lib _ λg vs w k st=>?_;obtain⟨v,u,rfl,hv,hu⟩:=relvs2 k;cases hv with|str _ hs=>?_
 cases hu
 refine(Tryz.strings_TrimLeft_one ⟨s.toArray⟩ c hc w).mono ?_;rintro e w' ⟨rfl,rfl⟩;exact⟨_,rfl,.str _ (bK (cX _).length_le hs),Below.refl _ _⟩
theorem trimRightA(c:UInt8)(hc:c.toNat<128)(s:List UInt8):Fn 151 [.str s,.str [c]] (.str (Lib.trimRightB s c)):=by
 intro H;refine .lib _ λg vs w k st=>?_;obtain⟨v,u,rfl,hv,hu⟩:=relvs2 k;cases hv with|str _ hs=>?_
 cases hu
 refine(Tryz.strings_TrimRight_one ⟨s.toArray⟩ c hc w (by show s.toArray.size≤_;rw[zT]at hs;simpa using hs)).mono ?_;rintro e w' ⟨rfl,rfl⟩;refine⟨_,rfl,.str _ (bK ?_ hs),Below.refl _ _⟩;show(s.reverse.dropWhile (·==c)).reverse.length≤s.length;rw[List.length_reverse];have:=(cX (l:=s.reverse) (·==c)).length_le
 rwa[List.length_reverse]at this
theorem trimSetA(cs:List UInt8)(hc:∀b,b∈cs→b.toNat<128)(hcl:cs.length<1000)(s:List UInt8):Fn 192 [.str s,.str cs] (.str (Lib.trimS s cs)):=by
 intro H;refine .lib _ λg vs w k st=>?_;obtain⟨v,u,rfl,hv,hu⟩:=relvs2 k;cases hv with|str _ hs=>?_
 cases hu
 refine(Any.strings_Trim_laid Tryz.lays160 (by kernel_rfl) ⟨s.toArray⟩ ⟨cs.toArray⟩ w (by show s.toArray.size≤_;rw[zT]at hs;simpa using hs) (by show cs.toArray.size<_;rw[List.size_toArray];omega) (λj b h=>hc b (eB (by simpa using h)))).mono ?_;rintro e w' ⟨rfl,hb⟩;refine⟨_,rfl,.str _ (bK ?_ hs),hb⟩;show((s.reverse.dropWhile (cs.contains ·)).reverse.dropWhile (cs.contains ·)).length≤s.length;have h1:=(cX (l:=(s.reverse.dropWhile (cs.contains ·)).reverse) (cs.contains ·)).length_le;have h2:=(cX (l:=s.reverse) (cs.contains ·)).length_le;rw[List.length_reverse]at h1 h2;omega
theorem hasSuffixA(s p:List UInt8):Fn 230 [.str s,.str p] (.bool (Lib.hasSuffix s p)):=by
 intro H;refine .lib _ λg vs w k st=>?_;obtain⟨v,u,rfl,hv,hu⟩:=relvs2 k;cases hv with|str _ hs=>?_
 cases hu
 refine(Tryz.strings_HasSuffix ⟨s.toArray⟩ ⟨p.toArray⟩ w (by show s.toArray.size≤_;rw[zT]at hs;simpa using hs)).mono ?_;rintro e w' ⟨rfl,rfl⟩;exact⟨_,rfl,.bool _,Below.refl _ _⟩
theorem compareA(s p:List UInt8):Fn 304 [.str s,.str p] (.int .i64 (Lib.compareBytes s p)):=by
 intro H;refine .lib _ λg vs w k st=>?_;obtain⟨v,u,rfl,hv,hu⟩:=relvs2 k;cases hv;cases hu
 refine(Tryz.strings_Compare ⟨s.toArray⟩ ⟨p.toArray⟩ w).mono ?_;rintro e w' ⟨rfl,rfl⟩;exact⟨_,rfl,.int _ _,Below.refl _ _⟩
section
open Go Go.RowKit
set_option maxRecDepth 100000
theorem bhU{a:Nat}{s:List UInt8}(hv:0<v)(h:dec a=if v=0 then s else dec v++s):
  dec a=if v/1000000000=0 then(if v/1000000000=0 then dec (v%1000000000)else List.replicate (9-(dec (v%1000000000)).length) 48++dec (v%1000000000))++s
   else dec (v/1000000000)++((if v/1000000000=0 then dec (v%1000000000)else List.replicate (9-(dec (v%1000000000)).length) 48++dec (v%1000000000))++s):=by
 rw[aI]at h;by_cases h0:v/1000000000=0
 ·rw[aM h0,aM h0,h,show v%1000000000=v by omega]
 rw[aL h0,aL h0,h,←bE,←bhY aA]
theorem bmG{a:Nat}{s:List UInt8}(h:dec a=if v=0 then s else dec v++s):s.length≤(dec a).length:=by
 rw[h];split
 ·exact bA _
 rw[aQ];omega
theorem axW{xs:List Nat}:yS xs=0↔val xs=0:=⟨qI,qJ⟩
theorem bgW(h:(dec (v%1000000000)).length≤9):(if v/1000000000=0 then dec (v%1000000000)else List.replicate (9-(dec (v%1000000000)).length) 48++dec (v%1000000000)).length≤9:=by
 split
 ·exact h
 rw[aQ,aZ];omega
theorem apI{zs ws:List Nat}{m:Nat}(h:ws.length=m):(mid zs 0 ws).take m=ws:=by
 have:=bdK (zs:=zs) (o:=0) h (Nat.zero_le _)
 rwa[List.drop_zero]at this
theorem atQ(ws:List Nat):yS (ws.take (yS ws))=yS ws∧val (ws.take (yS ws))=val ws:=by
 induction ws with
 |nil=>exact⟨rfl,rfl⟩
 |cons x xs ih=>
  by_cases h:yS xs=0∧x=0
  ·rw[yS,aM h,eO];exact⟨rfl,by rw[val,val,qI h.1,h.2]⟩
  rw[yS,aL h,dJ,yS,ih.1,aL h,val,val,ih.2];exact⟨rfl,rfl⟩
def boD(a n b7:Nat)(H:Heap):Nat→Env→Heap→Prop:=λk env H1=>∃(m:Nat)(zs:List Nat)(s:List UInt8),m≤n∧zs.length=n∧Limbs zs∧yS (zs.take m)=m∧dec a=(if val (zs.take m)=0 then s else dec (val (zs.take m))++s)∧env=[(3,.mslice (some ⟨b7,0,none⟩) m n),(4,.str s)]∧H1=H.set b7 (.box 210 (U .u32 zs))∧k=val (zs.take m)
theorem ajL(a:Nat)(hx:a<BIG):Fn 109 [aaS a] (.str (dec a)):=by
 intro H;have ha256:=abI hx;have hdl:=beM hx;refine .of_body func109 rfl ntmps109 results109 rfl ?_;refine AX ?_;refine AX ?_;refine .p rfl (zC (zM rfl)) ?_;refine .nil ?_;iterate 2 refine AX ?_
 refine AX ?_;refine .p rfl (zD (.tmp _ _ rfl)) ?_;refine .s rfl (zE call171 (.cons (.tmp _ _ rfl) .nil) (biK _ _ (zS _) aA _)) ?_;rintro _ _ ⟨b7,hb7,rfl,hH⟩;obtain rfl:=hH.symm;rw[yG];refine .p rfl (zC (.tmp _ _ rfl)) ?_;refine .nil ?_;iterate 3 refine AX ?_
 refine AX ?_;refine .p rfl (zD (.tmp _ _ rfl)) ?_;first|(refine .p rfl (yM U159 (.tmp _ _ rfl)) ?_)|(refine .p rfl (acT U159 (.tmp _ _ rfl)) ?_)|(refine .p rfl (abY U159 (.tmp _ _ rfl)) ?_)
 refine .p rfl (aaR (.tmp _ _ rfl) (yQ 0)) ?_;refine .nil ?_;refine AX ?_
 
 refine .cond (.tmp _ _ rfl) (λhc10=>?_) (λhc10=>?_)
 ·try simp only[aV]at hc10
  refine AX ?_;refine .frzU (t:=3) rfl hb7 (bA _) (bA _) (by simp only[zT];omega) ?_;refine AX ?_;refine .p rfl (zC (zM rfl)) ?_;refine .nil ?_;iterate 3 refine AX ?_
  
  refine AX ?_;refine⟨?_,rfl⟩;have ha0:a=0:=by
   have h0:=yG a;rw[dS.1 (by omega:(zK a).length=0)]at h0;exact h0.symm
  rw[ha0];rfl
 try simp only[aT]at hc10
 have ha0:a≠0:=by rintro rfl;simp[abR]at hc10
 iterate 3 refine AX ?_
 refine AX ?_;refine .p rfl (zC (zM rfl)) ?_;refine .nil ?_;iterate 3 refine AX ?_
 
 refine .loopW (boD a (zK a).length b7 H) (a) ⟨(zK a).length,zK a,[],bA _,rfl,zS a,by rw[bS,alN],by rw[bS,yG,aL ha0,bT],rfl,rfl,by rw[bS,yG]⟩ sX (hRa _) ?_;rintro _ _ _ ⟨m,zs,s,hm,hzl,hzL,hrm,hdec,rfl,rfl,hk⟩;have hsl:=bmG hdec;iterate 2 refine AX ?_
 refine AX ?_;refine .p rfl (zD (.tmp _ _ rfl)) ?_;first|(refine .p rfl (yM U159 (.tmp _ _ rfl)) ?_)|(refine .p rfl (acT U159 (.tmp _ _ rfl)) ?_)|(refine .p rfl (abY U159 (.tmp _ _ rfl)) ?_)
 refine .p rfl (abW (.tmp _ _ rfl) (yQ 0)) ?_;refine .nil ?_;refine AX ?_
 
 refine .cond (.tmp _ _ rfl) (λhc13=>?_) (λhc13=>?_)
 ·try simp only[aV]at hc13
  have hpos:0<val (zs.take m):=Nat.pos_of_ne_zero (λh=>by have:=qJ h;omega);iterate 4 refine AX ?_
  refine AX ?_;refine .p rfl (zD (.tmp _ _ rfl)) ?_;refine .s rfl (zE call201 (.cons (.tmp _ _ rfl) (.cons (yQ 1000000000) .nil)) (atC b7 0 m (zK a).length 1000000000 aC aC zs hzL aA aA _ (oS _ _ _))) ?_;rintro _ _ ⟨rfl,ws,hwl,hwL,hwv,hH⟩;obtain rfl:=hH.symm;rw[sS];rw[List.drop_zero]at *;generalize hv:val (zs.take m)=v at *;have hvm:=cO v (by decide:0<1000000000);have hpl:=(aeR (n:=v%1000000000) (k:=9) aC).2 hvm;have hrw:=axW (xs:=ws);have hrl:=aaO ws;obtain⟨hrr,hrv⟩:=atQ ws;rw[hwv]at hrw hrv;have hpt:=bgW hpl;have hrp:(List.replicate (9-(dec (v%1000000000)).length) (48:UInt8)).length=9-(dec (v%1000000000)).length:=aZ;refine .p rfl (qQ U210 U3 (.tmp _ _ rfl) (wrapNI64 (by first|assumption|omega))) ?_;refine .s rfl (zE C90 (.cons (.tmp _ _ rfl) .nil) (itoaA _ aA _)) ?_;rintro _ _ ⟨rfl,hH⟩;obtain rfl:=hH.symm;refine .p rfl (zC (.tmp _ _ rfl)) ?_;refine .nil ?_;refine AX ?_;refine .seqToL [(3,.mslice (some ⟨b7,0,none⟩) (yS ws) (zK a).length),(5,.str (if v/1000000000=0 then dec (v%1000000000)else List.replicate (9-(dec (v%1000000000)).length) 48++dec (v%1000000000)))] [4] ?_ ?_
  ·refine AX ?_;refine AX ?_;refine .p rfl (zD (.tmp _ _ rfl)) ?_;refine .s rfl (zE C194 (.cons (.tmp _ _ rfl) .nil) (azH b7 m (zK a).length (mid zs 0 ws) (ahN hzL hwL) (by rw[agN hwl aA];omega) aA hm _ (oS _ _ _))) ?_;rintro _ _ ⟨rfl,hH⟩;obtain rfl:=hH.symm;rw[apI hwl];refine .p rfl (zC (.tmp _ _ rfl)) ?_;refine .nil ?_;iterate 2 refine AX ?_
   refine AX ?_;refine .p rfl (zD (.tmp _ _ rfl)) ?_;first|(refine .p rfl (yM U159 (.tmp _ _ rfl)) ?_)|(refine .p rfl (acT U159 (.tmp _ _ rfl)) ?_)|(refine .p rfl (abY U159 (.tmp _ _ rfl)) ?_)
   refine .p rfl (abW (.tmp _ _ rfl) (yQ 0)) ?_;refine .nil ?_;refine AX ?_
   
   refine .cond (.tmp _ _ rfl) (λhc22=>?_) (λhc22=>?_)
   ·try simp only[aV]at hc22
    refine AX ?_;refine .p rfl (zD (.tmp _ _ rfl)) ?_;refine .p rfl (abO U9 (.tmp _ _ rfl)) ?_;refine .p rfl (aaD (yQ 9) (.tmp _ _ rfl) aA) ?_;refine .s rfl (zE C103 (.cons (zM rfl) (.cons (.tmp _ _ rfl) .nil)) (repeatZ 48 _ (9-(dec (v%1000000000)).length) aA aA _)) ?_;rintro _ _ ⟨rfl,hH⟩;obtain rfl:=hH.symm;refine .p rfl (zD (.tmp _ _ rfl)) ?_;refine .p rfl (zU (.tmp _ _ rfl) (.tmp _ _ rfl) (by simp only[zT]at *;omega)) ?_;refine .p rfl (zC (.tmp _ _ rfl)) ?_;refine .nil ?_;exact⟨rfl,(yD rfl (by first|rfl|(rw[aI])|(rw[aJ])) (yD rfl (by first|rfl|(rw[aI])|(rw[aJ])) (zJ rfl yF))),rfl⟩
   try simp only[aT,cI]at hc22
   refine AX ?_;exact⟨rfl,(yD rfl (by first|rfl|(rw[aI])|(rw[aJ])) (yD rfl (by first|rfl|(rw[aI])|(rw[aJ])) (zJ rfl yF))),rfl⟩
  refine .sub [(3,_),(5,_),(4,_)] sX ?_;refine AX ?_;refine .p rfl (zD (.tmp _ _ rfl)) ?_;refine .p rfl (zD (.tmp _ _ rfl)) ?_;refine .p rfl (zU (.tmp _ _ rfl) (.tmp _ _ rfl) (by simp only[zT]at *;omega)) ?_;refine .p rfl (zC (.tmp _ _ rfl)) ?_;refine .nil ?_;iterate 2 refine AX ?_
  have htt:(mid zs 0 ws).take (yS ws)=ws.take (yS ws):=by rw[←apI (zs:=zs) hwl,List.take_take,apI hwl,cR aA]
  refine Round.mk ⟨yS ws,mid zs 0 ws,_,by omega,(agN hwl aA).trans hzl,ahN hzL hwL,by rw[htt];exact hrr,by rw[htt,hrv];exact bhU hpos hdec,rfl,rfl,by rw[htt,hrv]⟩ sX (hRa _) aA
 try simp only[aT,cI]at hc13
 iterate 6 refine AX ?_
 refine .frzU (t:=3) rfl hb7 aA hm (by simp only[zT];omega) ?_;refine AX ?_;refine .p rfl (zD (.tmp _ _ rfl)) ?_;refine .p rfl (zC (.tmp _ _ rfl)) ?_;refine .nil ?_;iterate 2 refine AX ?_
 
 refine AX ?_;refine⟨?_,rfl⟩;have hm0:m=0:=by omega
 rw[hm0,eO]at hdec;rw[show dec a=s from hdec.trans (aM rfl)];rfl
end
def isD(b:UInt8):Prop:=48≤b.toNat∧b.toNat≤57
def Digs(l:List UInt8):Prop:=∀b,b∈l→isD b
def awL(acc:Nat)(l:List UInt8):Nat:=l.foldl (λa c=>a*10+(c.toNat-48)) acc
theorem apF(acc:Nat):awL acc []=acc:=rfl
theorem adV(acc:Nat)(c:UInt8)(r:List UInt8):awL acc (c::r)=awL (acc*10+(c.toNat-48)) r:=by unfold awL;rw[List.foldl_cons]
def num(l:List UInt8):Nat:=awL 0 l
theorem alM:∀(l:List UInt8)(acc:Nat),awL acc l=acc*10^l.length+num l
 | [],acc=>by rw[num,apF,apF];simp
 |c::r,acc=>by
  rw[num,adV,adV,alM r (acc*10+(c.toNat-48)),alM r (0*10+(c.toNat-48)),aW,cB,bM,cQ,cA,bY,bL 10];omega
theorem anP(a b:List UInt8):num (a++b)=num a*10^b.length+num b:=by
 have h:∀(a:List UInt8)(acc:Nat),awL acc (a++b)=awL (awL acc a) b:=by
  intro a;induction a with
  |nil=>intro acc;rfl
  |cons c r ih=>intro acc;rw[eQ,adV,adV,ih]
 rw[num,h,alM];rfl
theorem awK(c:UInt8)(r:List UInt8):num (c::r)=(c.toNat-48)*10^r.length+num r:=by
 rw[num,adV,alM,cQ,cA]
theorem arK:∀{l:List UInt8},Digs l→num l<10^l.length
 | [],_=>by rw[num,apF];simp
 |c::r,h=>by
  have h1:=arK (l:=r) λb hb=>h b (by simp[hb]);have h2:=h c aF;rw[awK,aW,cB];have h3:(c.toNat-48)*10^r.length≤9*10^r.length:=bC _ (by have:=h2.2;omega);omega
theorem blL(acc:Nat)(l:List UInt8):acc≤awL acc l:=by
 rw[alM];have:acc*1≤acc*10^l.length:=eJ _ (cK aC);omega
theorem anM:∀(l:List UInt8)(acc:Nat),Digs l→awL acc l<18446744073709551616→Lib.parseUint10 acc l= .ok (awL acc l)
 | [],acc,_,_=>rfl
 |c::r,acc,h,hl=>by
  rw[adV]at hl ⊢;have h1:=blL (acc*10+(c.toNat-48)) r;have h2:=h c aF;unfold Lib.parseUint10;rw[aM (show 48≤c.toNat∧c.toNat≤57 from h2),aI,aI];exact anM r _ (λb hb=>h b (by simp[hb])) hl
theorem Digs.take(h:Digs l)(n:Nat):Digs (l.take n):=λb hb=>h b (List.mem_of_mem_take hb)
theorem Digs.drop(h:Digs l)(n:Nat):Digs (l.drop n):=λb hb=>h b (List.mem_of_mem_drop hb)
theorem Digs.dropWhile(h:Digs l)(q:UInt8→Bool):Digs (l.dropWhile q):=λb hb=>h b ((cX q).subset hb)
theorem bmR(hne:l≠[])(h:Digs l)(hl:l.length≤18):Lib.atoiAll l= .ok (num l:Int):=by
 have h1:=arK h;have h2:10^l.length≤10^18:=bU aC hl;have h3:=anM l 0 h (by rw[show awL 0 l=num l from rfl];omega);cases l with
 |nil=>exact absurd rfl hne
 |cons c r=>
  have h4:=h c aF;have h4a:=h4.1;unfold Lib.atoiAll;simp only[];rw[aI];unfold Lib.parseMag;rw[aL aF,h3];simp only[];rw[aL (by rintro⟨_,hb⟩;rw[show awL 0 (c::r)=num (c::r)from rfl]at hb;omega),aL (by rintro⟨hb,_⟩;omega),aI];rfl
theorem atoiA(s:List UInt8)(hne:s≠[])(h:Digs s)(hl:s.length≤18):Fn 102 [.str s] (.tuple [.int .i64 (num s:Int),.nilIface]):=by
 intro H;refine .lib _ λg vs w k st=>?_;obtain⟨v,rfl,hv⟩:=relvs1 k;cases hv
 refine(Tryz.strconv_Atoi_ok ⟨s.toArray⟩ (by show s.toArray.size≤_;rw[List.size_toArray];omega) _ (bmR hne h hl) w).mono ?_;rintro e w' ⟨rfl,hw⟩;refine⟨_,rfl,.tuple _ _ rfl (λi c v hc hv=>?_),?_⟩
 ·match i with
  |0=>cases hc;cases hv;exact .int _ _
  |1=>cases hc;cases hv;exact .nilIface
  |i+2=>simp at hc
 rcases hw with rfl|⟨t,rfl⟩
 ·exact Below.refl _ _
 exact Lib.bytesWorld_below _ _ _
theorem apQ(n:Nat):Digs (dec n):=by
 have hd:∀m,m<10→isD (dgt m):=λm hm=>by
  unfold isD dgt;rw[UInt8.toNat_ofNat'];omega
 induction n using Nat.strongRecOn with
 |ind n ih=>
  rcases bO n 10 with h|h
  ·rw[alZ h];intro b hb;rw[cU.1 hb];exact hd n h
  rw[amA h];intro b hb;rcases dK.1 hb with hb|hb
  ·exact ih _ aA b hb
  rw[cU.1 hb];exact hd _ (cO _ aC)
def dA(neg:Bool)(ds:List UInt8)(e:Int):AV:=.agg [.bool neg,.str ds,.int .i64 e]
def bmI(ds:List UInt8):Bool:=ds.all λb=>decide (48≤b.toNat)&&decide (b.toNat≤57)
theorem apP{ds:List UInt8}:bmI ds=true↔Digs ds:=by
 unfold bmI Digs isD;simp[cV]
def yL(ds:List UInt8)(e:Int):Bool:=
 if ds=[]then decide (e=0)else
 decide (ds.length≤1100)&&decide (-100000≤e)&&decide (e≤100000)&&bmI ds&& !decide ((ds.getD 0 0)=48)&& !decide ((ds.getD (ds.length-1) 0)=48)
def arO(ds:List UInt8):List UInt8:=ds.dropWhile (·==48)
def abZ(ds:List UInt8):List UInt8:=Lib.trimRightB (arO ds) 48
def ahM(ds:List UInt8):Nat:=(arO ds).length-(abZ ds).length
def okD(ds:List UInt8)(e:Int):Prop:=(abZ ds).length≤1100∧ -100000≤e+ahM ds∧e+ahM ds≤100000
instance (ds:List UInt8) (e:Int):Decidable (okD ds e):=inferInstanceAs (Decidable (_∧_∧_))
def mkN(neg:Bool)(ds:List UInt8)(e:Int):(Bool×List UInt8×Int)×Int:=
 if abZ ds=[]then((neg,[],0),0)else if okD ds e then((neg,abZ ds,e+ahM ds),0)else((false,[],0),2)
def dT(d:(Bool×List UInt8×Int)×Int):AV:=.tuple [dA d.1.1 d.1.2.1 d.1.2.2,.int .i64 d.2]
theorem agH(l:List UInt8)(c:UInt8):∃n,l=Lib.trimRightB l c++List.replicate n c:=by
 unfold Lib.trimRightB;have h:∀m:List UInt8,∃n,m=List.replicate n c++m.dropWhile (·==c):=by
  intro m;induction m with
  |nil=>exact⟨0,rfl⟩
  |cons x m ih=>
   rw[List.dropWhile_cons];split
   ·rename_i hx
    obtain⟨n,hn⟩:=ih;have hx':x=c:=by simpa using hx
    refine⟨n+1,?_⟩;rw[eI,eQ,←hn,hx']
   exact⟨0,rfl⟩
 obtain⟨n,hn⟩:=h l.reverse;refine⟨n,?_⟩;have:=congrArg List.reverse hn;rw[List.reverse_reverse,List.reverse_append,List.reverse_replicate]at this;exact this
theorem adL(l:List UInt8)(c:UInt8):(Lib.trimRightB l c).length≤l.length:=by
 obtain⟨n,hn⟩:=agH l c;have:=congrArg List.length hn;rw[aQ]at this;omega
theorem alX(l:List UInt8)(c:UInt8):(l.dropWhile (·==c)).length≤l.length:=(cX _).length_le
theorem amW(h:Lib.trimRightB l c≠[]):(Lib.trimRightB l c).getD ((Lib.trimRightB l c).length-1) 0≠c:=by
 unfold Lib.trimRightB at h ⊢;have hh:l.reverse.dropWhile (·==c)≠[]:=by simpa using h
 have h1:∀m:List UInt8,m.dropWhile (·==c)≠[]→∃x r,m.dropWhile (·==c)=x::r∧x≠c:=by
  intro m;induction m with
  |nil=>intro h;exact absurd rfl h
  |cons x m ih=>
   intro h;rw[List.dropWhile_cons]at h ⊢;split
   ·rename_i hx;rw[aM hx]at h;exact ih h
   rename_i hx;exact⟨x,m,rfl,by simpa using hx⟩
 obtain⟨x,r,hx,hne⟩:=h1 _ hh;rw[hx];simp;exact hne
theorem azE(h:l.dropWhile (·==c)≠[]):(l.dropWhile (·==c)).getD 0 0≠c:=by
 induction l with
 |nil=>exact absurd rfl h
 |cons x m ih=>
  rw[List.dropWhile_cons]at h ⊢;split
  ·rename_i hx;rw[aM hx]at h;exact ih h
  rename_i hx;simpa using hx
theorem Digs.trimR(h:Digs l)(c:UInt8):Digs (Lib.trimRightB l c):=λb hb=>by
 obtain⟨n,hn⟩:=agH l c;exact h b (by rw[hn];simp[hb])
theorem axK(h:Lib.trimRightB l c≠[]):(Lib.trimRightB l c).getD 0 0=l.getD 0 0:=by
 obtain⟨n,hn⟩:=agH l c;cases ht:Lib.trimRightB l c with
 |nil=>exact absurd ht h
 |cons x r=>rw[ht]at hn;rw[hn];rfl
theorem aiV{ds:List UInt8}(hd:Digs ds)(h:abZ ds≠[]){e:Int}:yL (abZ ds) e=(decide ((abZ ds).length≤1100)&&decide (-100000≤e)&&decide (e≤100000)):=by
 unfold yL;rw[aL h];have h1:bmI (abZ ds)=true:=apP.2 ((hd.dropWhile _).trimR _);have h2:(abZ ds).getD ((abZ ds).length-1) 0≠48:=amW h;have h3:(abZ ds).getD 0 0≠48:=by
  unfold abZ;rw[axK h];refine azE λh0=>h ?_;unfold abZ arO;rw[h0];rfl
 rw[h1,aO h2,aO h3];simp
theorem ajW{neg:Bool}{ds:List UInt8}{e:Int}(hd:Digs ds):yL (mkN neg ds e).1.2.1 (mkN neg ds e).1.2.2=true:=by
 unfold mkN;split
 ·rfl
 rename_i h
 split
 ·rename_i h2
  obtain⟨h3,h4,h5⟩:=h2;show yL (abZ ds) (e+ahM ds)=true;rw[aiV hd h];simp[h3,h4,h5]
 rfl
theorem qO{ds:List UInt8}{e:Int}(h:yL ds e=true):Digs ds:=by
 unfold yL at h;split at h
 ·rename_i h0;rw[h0];intro b hb;simp at hb
 simp only[bB]at h;exact apP.1 h.1.1.2
theorem yX{ds:List UInt8}{e:Int}(h:yL ds e=true):ds.length≤1100∧ -100000≤e∧e≤100000:=by
 unfold yL at h;split at h
 ·rename_i h0
  have:e=0:=by simpa using h
  rw[h0,this];simp
 simp only[bB,aV]at h;exact⟨h.1.1.1.1.1,h.1.1.1.1.2,h.1.1.1.2⟩
section
open Go Go.RowKit
def yT(x:Nat):Nat:=
 if x/4503599627370496%2048=2047 then(if x%4503599627370496=0 then 3 else 4)
 else if x/4503599627370496%2048=0 then(if x%4503599627370496=0 then 0 else 1)else 2
def zZ(x:Nat):Nat:=if yT x≤1 then x%4503599627370496 else if yT x=2 then 4503599627370496+x%4503599627370496 else 0
def zN(x:Nat):Int:=if yT x≤1 then-1074 else if yT x=2 then((x/4503599627370496%2048:Nat):Int)-1075 else 0
def auK(x:Nat):Bool:=decide ((9223372036854775808:Int)≤(x:Int))
theorem apU(x:Nat):x&&&2047=x%2048:=eE x 11
theorem awY(x:Nat):x&&&4503599627370495=x%4503599627370496:=eE x 52
theorem bnR{f:Nat}(h:f<4503599627370496):4503599627370496|||f=4503599627370496+f:=by
 have:=Nat.two_pow_add_eq_or_of_lt (i:=52) h 1;simp at this;omega
theorem ahK(x:Nat):zZ x<9007199254740992:=by
 unfold zZ;split
 ·omega
 split<;>omega
theorem acU(x:Nat): -1075≤zN x∧zN x≤972:=by
 unfold zN;split
 ·omega
 split<;>omega
theorem bhN(x:Nat):yT x≤4:=by
 unfold yT;split
 ·split<;>omega
 split
 ·split<;>omega
 omega
end
section
open Go Go.RowKit
set_option maxRecDepth 100000
theorem acK(x:Nat)(hx:x<18446744073709551616):Fn 31 [.int .u64 (x:Int)] (.int .i64 (yT x:Int)):=by
 intro H;have hp:(2:Nat)^52=4503599627370496:=by decide
 refine .of_body func31 rfl ntmps31 results31 rfl ?_;iterate 9 refine AX ?_
 refine AM ?_;refine .p rfl (afT (tm rfl) (yQ 2047) aA aA) ?_;refine AX ?_;refine .p rfl (afT (tm rfl) (yQ 4503599627370495) aB aA) ?_;iterate 6 refine AX ?_
 rw[apU,awY,hp];iterate 4 refine AM ?_
 refine zB (t:=13) rfl (λhg13=>?_) (λhg13=>?_)
 ·have hh13:=hg13;try simp only[aV]at hh13
  iterate 6 refine AM ?_
  refine .cx rfl (λhc10=>?_) (λhc10=>?_)
  ·iterate 9 refine AX ?_
   refine⟨?_,rfl⟩;simp only[yN,yT];congr 1
   (repeat' split)<;>first|rfl|omega
  iterate 7 refine AM ?_
  refine .cx rfl (λhc17=>?_) (λhc17=>?_)
  ·iterate 9 refine AX ?_
   refine⟨?_,rfl⟩;simp only[yN,yT];congr 1
   (repeat' split)<;>first|rfl|omega
  iterate 7 refine AM ?_
  refine .cx rfl (λhc20=>?_) (λhc20=>?_)
  ·iterate 9 refine AX ?_
   refine⟨?_,rfl⟩;simp only[yN,yT];congr 1
   (repeat' split)<;>first|rfl|omega
  iterate 7 refine AM ?_
  refine .cx rfl (λhc23=>?_) (λhc23=>?_)
  ·iterate 9 refine AX ?_
   refine⟨?_,rfl⟩;simp only[yN,yT];congr 1
   (repeat' split)<;>first|rfl|omega
  iterate 10 refine AX ?_
  refine⟨?_,rfl⟩;simp only[yN,yT];congr 1
  (repeat' split)<;>first|rfl|omega
 have hh13:=hg13;try simp only[aT]at hh13
 iterate 6 refine AX ?_
 refine .cond_false (tm rfl) aD ?_;iterate 7 refine AM ?_
 refine .cx rfl (λhc17=>?_) (λhc17=>?_)
 ·iterate 9 refine AX ?_
  refine⟨?_,rfl⟩;simp only[yN,yT];congr 1
  (repeat' split)<;>first|rfl|omega
 iterate 7 refine AM ?_
 refine .cx rfl (λhc20=>?_) (λhc20=>?_)
 ·iterate 9 refine AX ?_
  refine⟨?_,rfl⟩;simp only[yN,yT];congr 1
  (repeat' split)<;>first|rfl|omega
 iterate 7 refine AM ?_
 refine .cx rfl (λhc23=>?_) (λhc23=>?_)
 ·iterate 9 refine AX ?_
  refine⟨?_,rfl⟩;simp only[yN,yT];congr 1
  (repeat' split)<;>first|rfl|omega
 iterate 10 refine AX ?_
 refine⟨?_,rfl⟩;simp only[yN,yT];congr 1
 (repeat' split)<;>first|rfl|omega
theorem agK(x:Nat)(hx:x<18446744073709551616):Fn 17 [.int .u64 (x:Int)] (.int .i64 (yT x:Int)):=by
 intro H;have hp:(2:Nat)^52=4503599627370496:=by decide
 refine .of_body func17 rfl ntmps17 results17 rfl ?_;iterate 8 refine AX ?_
 refine AM ?_;refine .p rfl (abN (tm rfl) (yQ 2048) aA) ?_;iterate 6 refine AX ?_
 refine .p rfl (abN (tm rfl) (yQ 4503599627370496) aA) ?_;iterate 6 refine AX ?_
 rw[hp];iterate 4 refine AM ?_
 refine zB (t:=13) rfl (λhg13=>?_) (λhg13=>?_)
 ·have hh13:=hg13;try simp only[aV]at hh13
  iterate 6 refine AM ?_
  refine .cx rfl (λhc10=>?_) (λhc10=>?_)
  ·iterate 9 refine AX ?_
   refine⟨?_,rfl⟩;simp only[yN,yT];congr 1
   (repeat' split)<;>first|rfl|omega
  iterate 7 refine AM ?_
  refine .cx rfl (λhc17=>?_) (λhc17=>?_)
  ·iterate 9 refine AX ?_
   refine⟨?_,rfl⟩;simp only[yN,yT];congr 1
   (repeat' split)<;>first|rfl|omega
  iterate 5 refine AM ?_
  refine zB (t:=23) rfl (λhg23=>?_) (λhg23=>?_)
  ·have hh23:=hg23;try simp only[aV]at hh23
   iterate 6 refine AM ?_
   refine .cx rfl (λhc20=>?_) (λhc20=>?_)
   ·iterate 9 refine AX ?_
    refine⟨?_,rfl⟩;simp only[yN,yT];congr 1
    (repeat' split)<;>first|rfl|omega
   iterate 7 refine AM ?_
   refine .cx rfl (λhc27=>?_) (λhc27=>?_)
   ·iterate 9 refine AX ?_
    refine⟨?_,rfl⟩;simp only[yN,yT];congr 1
    (repeat' split)<;>first|rfl|omega
   iterate 10 refine AX ?_
   refine⟨?_,rfl⟩;simp only[yN,yT];congr 1
   (repeat' split)<;>first|rfl|omega
  have hh23:=hg23;try simp only[aT]at hh23
  iterate 6 refine AX ?_
  refine .cond_false (tm rfl) aD ?_;iterate 7 refine AM ?_
  refine .cx rfl (λhc27=>?_) (λhc27=>?_)
  ·iterate 9 refine AX ?_
   refine⟨?_,rfl⟩;simp only[yN,yT];congr 1
   (repeat' split)<;>first|rfl|omega
  iterate 10 refine AX ?_
  refine⟨?_,rfl⟩;simp only[yN,yT];congr 1
  (repeat' split)<;>first|rfl|omega
 have hh13:=hg13;try simp only[aT]at hh13
 iterate 6 refine AX ?_
 refine .cond_false (tm rfl) aD ?_;iterate 7 refine AM ?_
 refine .cx rfl (λhc17=>?_) (λhc17=>?_)
 ·iterate 9 refine AX ?_
  refine⟨?_,rfl⟩;simp only[yN,yT];congr 1
  (repeat' split)<;>first|rfl|omega
 iterate 5 refine AM ?_
 refine zB (t:=23) rfl (λhg23=>?_) (λhg23=>?_)
 ·have hh23:=hg23;try simp only[aV]at hh23
  iterate 6 refine AM ?_
  refine .cx rfl (λhc20=>?_) (λhc20=>?_)
  ·iterate 9 refine AX ?_
   refine⟨?_,rfl⟩;simp only[yN,yT];congr 1
   (repeat' split)<;>first|rfl|omega
  iterate 7 refine AM ?_
  refine .cx rfl (λhc27=>?_) (λhc27=>?_)
  ·iterate 9 refine AX ?_
   refine⟨?_,rfl⟩;simp only[yN,yT];congr 1
   (repeat' split)<;>first|rfl|omega
  iterate 10 refine AX ?_
  refine⟨?_,rfl⟩;simp only[yN,yT];congr 1
  (repeat' split)<;>first|rfl|omega
 have hh23:=hg23;try simp only[aT]at hh23
 iterate 6 refine AX ?_
 refine .cond_false (tm rfl) aD ?_;iterate 7 refine AM ?_
 refine .cx rfl (λhc27=>?_) (λhc27=>?_)
 ·iterate 9 refine AX ?_
  refine⟨?_,rfl⟩;simp only[yN,yT];congr 1
  (repeat' split)<;>first|rfl|omega
 iterate 10 refine AX ?_
 refine⟨?_,rfl⟩;simp only[yN,yT];congr 1
 (repeat' split)<;>first|rfl|omega
theorem amH(x:Nat)(hx:x<18446744073709551616):Fn 91 [.int .u64 (x:Int)] (.tuple [.bool (auK x),.int .u64 ((zZ x:Nat):Int),.int .i64 (zN x)]):=by
 intro H;have hp:(2:Nat)^52=4503599627370496:=by decide
 have hk:=bhN x;have hml:=cO x (by decide:0<4503599627370496);have hor:=bnR hml;have hbb:=apU (x/2^52);refine .of_body func91 rfl ntmps91 results91 rfl ?_;iterate 4 refine AM ?_
 iterate 6 refine AX ?_
 iterate 2 refine AM ?_
 refine .p rfl (afT (tm rfl) (yQ 4503599627370495) aB aA) ?_;iterate 6 refine AX ?_
 rw[awY];iterate 2 refine AX ?_
 refine .cl rfl C31 (evs1 rfl) (acK _ aB _) ?_;iterate 3 refine AX ?_
 refine .seqToL [(13,.bool (decide (yT x≤1)))] [0,2,3,4,5,6,12] ?_ ?_
 ·iterate 6 refine AX ?_
  refine .cx rfl (λhc13=>?_) (λhc13=>?_)
  ·refine AX ?_;exact⟨rfl,(yD rfl (by congr 1;symm;first|(exact aP aA)|(by_cases h:yT x≤1<;>simp[h]<;>omega)) sX),rfl⟩
  iterate 4 refine AX ?_
  exact⟨rfl,(yD rfl (by congr 1;symm;first|(exact aP aA)|(by_cases h:yT x≤1<;>simp[h]<;>omega)) sX),rfl⟩
 refine .sub [(13,_),(0,_),(2,_),(3,_),(4,_),(5,_),(6,_),(12,_)] sX ?_;refine .cx rfl (λhc13=>?_) (λhc13=>?_)
 ·iterate 13 refine AX ?_
  refine⟨?_,rfl⟩;simp only[yN,zZ,zN];rw[aJ,aJ]<;>rfl
 iterate 6 refine AX ?_
 refine .cx rfl (λhc18=>?_) (λhc18=>?_)
 ·iterate 4 refine AX ?_
  refine .p rfl (afH (yQ 4503599627370496) (tm rfl) aA aA) ?_;iterate 2 refine AM ?_
  refine .p rfl (afT (tm rfl) (yQ 2047) aA aA) ?_;iterate 11 refine AX ?_
  refine⟨?_,rfl⟩;simp only[yN,zZ,zN];rw[aI,aJ,aI,aJ,hor,apU,hp]<;>rfl
 iterate 8 refine AM ?_
 iterate 5 refine AX ?_
 refine⟨?_,rfl⟩;simp only[yN,zZ,zN];rw[aI,aI,aI,aI]<;>rfl
end
end Go.Proofs.YteedncdcbgplfaaGreatDoor
