import Derived.Test.YteedncdcbgplfaaGreatDoorYd
set_option maxHeartbeats 1000000
namespace Go.Proofs.YteedncdcbgplfaaGreatDoor
open Go.Proofs.Tryz
open Go Go.RowKit
variable{A Z ws xs zs:List Nat}{b i k n o r v:Nat}
section
set_option maxRecDepth 100000
def mid(zs:List Nat)(o:Nat)(ws:List Nat):List Nat:=zs.take o++ws++zs.drop (o+ws.length)
theorem afV(hn:ws.length=n)(h:o+n≤zs.length):(mid zs o ws).length=zs.length:=by
 unfold mid;simp;omega
theorem apR(h:o+n≤zs.length):mid zs o ((zs.drop o).take n)=zs:=by
 unfold mid;rw[aV,bO,show min n (zs.length-o)=n by omega,bK];rw[←gT,cK,cK]
theorem ayN(ho:o≤zs.length)(hi:i<ws.length):(mid zs o ws).set (o+i) v=mid zs o (ws.set i v):=by
 unfold mid;rw[cP,bK,bK,List.set_append_right _ _ (by rw[aV];omega),aV,show o+i-min o zs.length=i by omega,List.set_append_left _ _ hi]
theorem bgC(ho:o≤zs.length)(hi:i<ws.length):(mid zs o ws).getD (o+i) 0=ws.getD i 0:=by
 unfold mid;rw[aP,aP,bK,cY (by rw[aV];omega),aV,show o+i-min o zs.length=i by omega,cV hi]
theorem aeF(hz:Limbs zs)(hw:Limbs ws):Limbs (mid zs o ws):=((hz.take _).append hw).append (hz.drop _)
theorem cfG(xs:List Nat)(n:Nat):∃q,val xs=val (xs.take n)+4294967296^n*q:=by
 rcases bX xs.length n with h|h
 ·exact⟨0,by rw[aY aA];omega⟩
 refine⟨val (xs.drop n),?_⟩;have:=qW (xs.take n) (xs.drop n);rw[cK,aV,cZ h]at this;exact this
theorem ahS{j:Nat}(h:j<n-0):((zs.drop o).take n).getD j 0=zs.getD (o+j) 0:=by
 rw[aP,aP,eT,aK,eK]
theorem beE{d:Nat}(hd:0<d)(hw:ws.length=n)(hi:i<n)(hn:o+n≤zs.length)(hg:ws.getD (n-1-i) 0=zs.getD (o+(n-1-i)) 0)(h:val (ws.drop (n-i))*d+r=val (((zs.drop o).take n).drop (n-i))):
  val ((ws.set (n-1-i) ((r*4294967296+zs.getD (o+(n-1-i)) 0)/d)).drop (n-(i+1)))*d+(r*4294967296+zs.getD (o+(n-1-i)) 0)%d=val (((zs.drop o).take n).drop (n-(i+1))):=by
 have e:=ahS (zs:=zs) (o:=o) (n:=n) (j:=n-1-i) aA;rw[←e]at hg ⊢;rw[show n-i=n-1-i+1 by omega]at h;rw[show n-(i+1)=n-1-i by omega];exact auU hd aA aG hg h
theorem asC(h:ws.length=zs.length):mid zs 0 ws=ws:=by
 unfold mid;rw[h];simp
def brN(xs:List Nat)(tl:Tail)(b o n cp s:Nat)(zs:List Nat)(H:Heap):Nat→Env→Heap→Prop:=λk env H1=>∃(i c:Nat)(ws:List Nat),i≤n∧ws.length=n∧Limbs ws∧c<2^s∧val (ws.take i)+4294967296^i*c=val (xs.take i)*2^s∧env=[(0,.mslice (some ⟨b,o,none⟩) n cp),(1,.slice 1 (U .u32 xs) tl),(2,.int .i64 (s:Int)),(6,.int .u64 (c:Int)),(9,.int .i64 (n:Int)),(10,.int .i64 (i:Int))]∧H1=H.set b (.box 210 (U .u32 (mid zs o ws)))∧k=n-i
theorem alF(xs:List Nat)(tl:Tail)(hx:Limbs xs)(_:xs.length≤1000000)(b o n cp s:Nat)(zs:List Nat)(hz:Limbs zs)(hn:o+n≤zs.length)(hn2:n≤1000000)(hs:s<32)(H:Heap)(hb:H.objs b=some (.box 210 (U .u32 zs))):ACall prog 242 [.mslice (some ⟨b,o,none⟩) n cp,.slice 1 (U .u32 xs) tl,.int .i64 (s:Int)] H (λ_ H'=>∃ws:List Nat,ws.length=n∧Limbs ws∧val ws=val xs*2^s%4294967296^n∧H'=H.set b (.box 210 (U .u32 (mid zs o ws)))):=by
 have h2s:2^s≤2^31:=bB aC aA;have h2p:0<2^s:=bL aC;refine ACall.of_body func242 rfl ntmps242 results242 rfl ?_;iterate 9 refine AM ?_
 iterate 4 refine AX ?_
 refine AWP.loopW (brN xs tl b o n cp s zs H) (n) ⟨0,0,(zs.drop o).take n,Nat.zero_le _,by simp;omega,(hz.drop _).take _,by omega,by simp[val],rfl,(Heap.set_self (by rw[apR hn];exact hb)).symm,rfl⟩ sX (hRa _) ?_;rintro _ _ _ ⟨i,c,ws,hi,hw,hwl,hc,hv,rfl,rfl,hk⟩;iterate 6 refine AX ?_
 refine AWP.cx rfl (λhc11=>?_) (λhc11=>?_)
 ·have hg:=Limbs.getD hx i;obtain⟨hv2,hc2,hc3⟩:=blU (by omega:i<ws.length) aA hg hc hv;have hml:=afV (o:=o) hw hn;have hxs2:xs.getD i 0*2^s≤4294967295*2^s:=bD _ aA;iterate 10 refine AX ?_
  refine AWP.seqToL [(6,.int .u64 ((c+xs.getD i 0*2^s:Nat):Int))] [0,1,2,9,10,7] ?_ ?_
  ·iterate 8 refine AX ?_
   refine AWP.cx rfl (λhc16=>?_) (λhc16=>?_)
   ·iterate 4 refine AX ?_
    refine .p rfl (zV (i) U159 Z210 (tm rfl) (tm rfl) aA aA) ?_;iterate 3 refine AX ?_
    refine .p rfl (qZ (tm rfl) (tm rfl) aA aA) (.p rfl (abK (tm rfl) (tm rfl) aA aA) ?_);iterate 2 refine AX ?_
    exact⟨rfl,(zR rfl (by(rw[bfW hc])) sX),rfl⟩
   refine AX ?_;exact⟨rfl,(zR rfl (by(rw[aeX aA,dO];rfl)) sX),rfl⟩
  refine AWP.sub [(6,_),(0,_),(1,_),(2,_),(9,_),(10,_),(7,_)] sX ?_;iterate 6 refine AX ?_
  refine .p rfl (abU (i) U159 Z210 (tm rfl) (tm rfl) aA aA) (.e0 (qE Z210 (tm rfl) (tm rfl) (oS _ _ _) aA) ?_);try first|rw[sS]|rw[sU aB]
  iterate 10 refine AM ?_
  iterate 4 refine AX ?_
  refine Round.mk (J:=brN xs tl b o n cp s zs H) ⟨i+1,_,_,by omega,by simpa using hw,Limbs.set hwl aA,hc2,hv2,rfl,by rw[ayN aA aA];rfl,rfl⟩ sX (hRa _) aA
 iterate 4 refine AX ?_
 refine Ret.go' .nil _ (hRa _) ?_;have hin:i=n:=by omega
 subst hin;refine⟨ws,hw,hwl,?_,rfl⟩;obtain⟨q,hq⟩:=cfG xs i;rw[hq,bY,bJ,dW];exact biA hwl hw hv
def brL(b o n cp d:Nat)(zs:List Nat)(H:Heap):Nat→Env→Heap→Prop:=λk env H1=>∃(i r:Nat)(ws:List Nat),i≤n∧ws.length=n∧Limbs ws∧r<d∧(∀j,j<n-i→ws.getD j 0=zs.getD (o+j) 0)∧val (ws.drop (n-i))*d+r=val (((zs.drop o).take n).drop (n-i))∧env=[(0,.mslice (some ⟨b,o,none⟩) n cp),(1,.int .u32 (d:Int)),(5,.int .u64 (r:Int)),(10,.int .i64 (n:Int)),(11,.int .i64 (i:Int))]∧H1=H.set b (.box 210 (U .u32 (mid zs o ws)))∧k=n-i
theorem aqO(b o n cp d:Nat)(hd:0<d)(hd2:d<4294967296)(zs:List Nat)(hz:Limbs zs)(hn:o+n≤zs.length)(hn2:n≤1000000)(H:Heap)(hb:H.objs b=some (.box 210 (U .u32 zs))):ACall prog 201 [.mslice (some ⟨b,o,none⟩) n cp,.int .u32 (d:Int)] H (λy H'=>y= .int .u32 ((val ((zs.drop o).take n)%d:Nat):Int)∧∃ws:List Nat,ws.length=n∧Limbs ws∧val ws=val ((zs.drop o).take n)/d∧H'=H.set b (.box 210 (U .u32 (mid zs o ws)))):=by
 refine .of_body func201 rfl ntmps201 results201 rfl ?_;iterate 15 refine AM ?_
 iterate 4 refine AX ?_
 refine .loopW (brL b o n cp d zs H) (n) ⟨0,0,(zs.drop o).take n,Nat.zero_le _,by simp;omega,(hz.drop _).take _,by omega,λj hj=>ahS hj,by simp[val],rfl,(Heap.set_self (by rw[apR hn];exact hb)).symm,rfl⟩ sX (hRa _) ?_;rintro _ _ _ ⟨i,r,ws,hi,hw,hwl,hr,hgs,hv,rfl,rfl,hk⟩;iterate 6 refine AX ?_
 refine .cx rfl (λhc12=>?_) (λhc12=>?_)
 ·have hg:=hgs (n-1-i) aA;have hx:=Limbs.getD hz (o+(n-1-i));have hml:=afV (o:=o) hw hn;have hsh:r*2^32<18446744073709551616:=by rw[show(2:Nat)^32=4294967296 by decide];omega
  have hgm:=Limbs.getD (aeF (o:=o) hz hwl) (o+(n-1-i));obtain⟨hf1,hf2⟩:=auV hr hx hd2;have hq:(r*4294967296+zs.getD (o+(n-1-i)) 0)/d%2^IntKind.u32.bits=(r*4294967296+zs.getD (o+(n-1-i)) 0)/d:=bH hf1;have hm2:=bR (r*4294967296+zs.getD (o+(n-1-i)) 0) hd;iterate 20 refine AX ?_
  refine .seqToL [(8,.int .u64 ((r*4294967296+zs.getD (o+(n-1-i)) 0:Nat):Int))] [0,1,5,10,11,7] ?_ ?_
  ·iterate 2 refine AX ?_
   refine .p rfl (qZ (tm rfl) (yB 32) aA (by exact hsh)) ?_;iterate 2 refine AX ?_
   refine .p rfl (abU (n-1-i) U159 Z210 (tm rfl) (tm rfl) aA aA) (.e rfl (qJ G210 (tm rfl) (oS _ _ _) aA) ?_);refine AX ?_;refine .p rfl (abK (tm rfl) (tm rfl) (hsh) aA) ?_;iterate 2 refine AX ?_
   exact⟨rfl,(zR rfl (by rw[bgC aA aA,hg,←akX (k:=32) (fM hx aC)]) sX),rfl⟩
  refine .sub [(8,_),(0,_),(1,_),(5,_),(10,_),(11,_),(7,_)] sX ?_;refine .draw [(0,true),(1,true),(2,true),(3,true),(4,true),(5,true),(6,true),(7,true),(8,true),(9,true),(10,true),(11,true),(12,false),(13,true)] rfl aE ?_;iterate 5 refine AX ?_
  refine .p rfl rfl (anW (tm rfl) (tm rfl) aA aA) ?_;iterate 4 refine AX ?_
  refine .p rfl rfl (anV (tm rfl) (tm rfl) aA) (.p rfl rfl (abU (n-1-i) U159 Z210 (tm rfl) (tm rfl) aA aA) (.s0 rfl (qE Z210 (tm rfl) (tm rfl) (oS _ _ _) aA) ?_));rintro _ _ ⟨rfl,hH⟩;obtain rfl:=hH.symm;try first|rw[sS]|rw[sU aB]
  iterate 9 refine AX ?_
  rw[hq];refine Round.mk ⟨i+1,_,_,by omega,by simpa using hw,Limbs.set hwl hf1,hm2,λj hj=>by rw[getD_set_ne aA];exact hgs j aA,beE hd hw aA hn hg hv,rfl,by rw[ayN aA aA],rfl⟩ sX (hRa _) aA
 iterate 14 refine AX ?_
 have hin:i=n:=by omega
 subst hin;rw[Nat.sub_self,dL,dL]at hv;rw[←hv];refine⟨?_,ws,hw,hwl,?_,rfl⟩
 ·simp only[yT];congr 1;rw[bM,Nat.mul_add_mod,bH hr,bH];simp only[IntKind.bits];omega
 rw[bM,Nat.mul_add_div hd,cD hr];rfl
end
section
open Go Go.RowKit
set_option maxRecDepth 100000
theorem cjQ{s:Nat}(hv:0<v)(h:v*2^s<BIG):s<8192∧yN v+s≤8192∧v<BIG:=by
 have h1:2^s≤v*2^s:=Nat.le_mul_of_pos_left _ hv;have h5:v≤v*2^s:=fD _ (bL aC);have h6:v<BIG:=bA h5 h;obtain⟨k,hk,hB⟩:∃k,k=8192∧BIG=2^k:=⟨32*256,rfl,atP _ rfl⟩;rw[hB]at h;have h2:s<k:=(Nat.pow_lt_pow_iff_right (a:=2) aC).1 (bA h1 h);have h3:v<2^(k-s):=by
  rw[show k=(k-s)+s by omega,bI]at h;exact eF h
 have h4:=qI.2 h3;exact⟨by omega,by omega,h6⟩
theorem amV{s:Nat}(h:v*2^s<BIG):v<BIG:=bA (fD _ (bL aC)) h
theorem amM(s:Nat):4294967296^(s/32)*2^(s%32)=2^s:=by
 rw[show(4294967296:Nat)=2^32 by decide,←dV,←bI];congr 1;omega
theorem bxS{m:Nat}(h:o+ws.length=m):val (mid (List.replicate m 0) (0+o) ws)=4294967296^o*val ws:=by
 unfold mid;rw[bZ,List.take_replicate,List.drop_replicate,bK,qW,alD,qW,alD,bE,cZ aA,dJ,cA,bZ]
theorem cgC{s:Nat}(hv:v<4294967296^n)(hw:val ws=v*2^(s%32)%4294967296^(n+1)):4294967296^(s/32)*val ws=v*2^s:=by
 have h1:2^(s%32)≤2^31:=bB aC aA;have h2:v*2^(s%32)<4294967296^n*4294967296:=Nat.mul_lt_mul_of_lt_of_le hv aA aC;rw[hw,bH (by rw[bP];exact h2),Nat.mul_left_comm,amM]
theorem atE(xs:List Nat)(tl:Tail)(hx:Limbs xs)(hl:xs.length≤1000000)(s:Nat)(hs:val xs*2^s<BIG)(hs2:s<1000000000):Fn 168 [.slice 1 (U .u32 xs) tl,.int .i64 (s:Int)] (.tuple [qX (val xs*2^s),.int .i64 0]):=by
 intro H;have hB:=amV hs;have h256:=yM hB;have hr:=aaR xs;have hrl:=abD hx;refine .of_body func168 rfl ntmps168 results168 rfl ?_;iterate 15 refine AM ?_
 refine .cx rfl (λhc7=>?_) (λhc7=>?_)
 ·omega
 iterate 3 refine AX ?_
 refine .e rfl (yJ U314 Z159 V159 rfl (tm rfl) (.inl rfl) ⟨rfl,rfl⟩) (.cl rfl C193 (evs1 rfl) (arW _ _ _ aB aB _) ?_);iterate 3 refine AX ?_
 refine .cx rfl (λhc10=>?_) (λhc10=>?_)
 ·omega
 iterate 3 refine AX ?_
 refine .cl rfl C240 (evs1 rfl) (acP _ _ aB aB _) ?_;iterate 4 refine AM ?_
 refine .cx rfl (λhc14=>?_) (λhc14=>?_)
 ·iterate 10 refine AM ?_
  refine⟨?_,rfl⟩;rw[aaK aA,dO];rfl
 have hpos:0<val xs:=eL (λh=>by have:=aaL h;omega);obtain⟨hs3,hs4,_⟩:=cjQ hpos hs;refine .seqTo 18 (.bool (false)) [0,1,4,5] ?_ ?_
 ·iterate 4 refine AM ?_
  refine zD (t:=21) rfl (λhg21=>?_) (λhg21=>?_)
  ·iterate 8 refine AX ?_
   exact⟨rfl,zS rfl (by(simp at hg21;omega)) sX,rfl⟩
  refine AX ?_;refine .gs rfl rfl rfl aB (zB C241 (evs1 rfl) (bdG _ _ aB aB _)) ?_;rintro _ _ ⟨rfl,hH⟩;obtain rfl:=hH.symm;iterate 6 refine AM ?_
  exact⟨rfl,zS rfl (by(simp;omega)) sX,rfl⟩
 refine .sub [(18,_),(0,_),(1,_),(4,_),(5,_)] sX ?_;refine .cond_false (tm rfl) aD ?_;iterate 6 refine AX ?_
 refine .cl rfl C194 (evs1 rfl) (aaG _ _ aB aB _) ?_;iterate 11 refine AM ?_
 refine .s rfl (yQ (s/32+(zF (val xs)).length+1) U159 typeInfo210 Z210 V210 (tm rfl) (tm rfl) aA aA aC aA) ?_;rintro _ _ ⟨b36,rfl,hb36,hH⟩;obtain rfl:=hH.symm;iterate 8 refine AM ?_
 refine .p rfl (axU (_) U159 Z210 (tm rfl) (tm rfl) rfl aA aA aA) ?_;iterate 2 refine AX ?_
 refine .p rfl (alI (tm rfl) (yB 32) aA) ?_;refine .s rfl (zB call242 (evs3 rfl rfl rfl) (alF (zF (val xs)) .shared (zH _) aA b36 (0+s/32) _ _ (s%32) (List.replicate (s/32+(zF (val xs)).length+1) 0) (Limbs.rep aA) aG aA (bR _ aC) _ (oS _ _ _))) ?_;rintro _ _ ⟨ws,hw,hwl,hv,hH⟩;obtain rfl:=hH.symm;rw[sS];iterate 3 refine AX ?_
 rw[show s/32+(zF (val xs)).length+1-s/32=(zF (val xs)).length+1 by omega]at hw hv;have hmL:=aeF (o:=0+s/32) (Limbs.rep (n:=s/32+(zF (val xs)).length+1) (x:=0) aA) hwl;have hml:(mid (List.replicate (s/32+(zF (val xs)).length+1) 0) (0+s/32) ws).length≤1000000:=by rw[afV hw aG];simp;omega
 refine .frzU (t:=6) rfl hb36 (by rw[afV hw aG];simp) (aZ _) (by simp only[zQ];omega) ?_;rw[aY (by rw[afV hw aG];simp)];iterate 2 refine AX ?_
 refine .cl rfl C194 (evs1 rfl) (aaG _ _ aB aB _) ?_;iterate 6 refine AM ?_
 refine⟨?_,rfl⟩;rw[zN]at hv;rw[bxS aA,cgC (qH.1 (aZ _)) hv];rfl
end
theorem bhA{P:Program}{n:Fr}{cd:Code}{Q:Exit→Env→Heap→Prop}{env:Env}{H:Heap}{b:Bool}{t:Nat}(_h:env.get? t=some (.bool b))(ht:b=true→AWP P n cd Q env H)(hf:b=false→AWP P n cd Q env H):AWP P n cd Q env H:=by
 grind
theorem ccW(x r:Nat):x&&&(2^r-1)=x%2^r:=dS x r
def axF(r:Nat):List Nat→List Nat
 | []=>[]
 |x::xs=>(x+xs.getD 0 0*4294967296)/2^r%4294967296::axF r xs
theorem apN(r:Nat):∀xs:List Nat,(axF r xs).length=xs.length
 | []=>rfl
 |x::xs=>by rw[axF,aW,aW,apN r xs]
theorem auT(r:Nat):∀xs:List Nat,Limbs (axF r xs)
 | []=>Limbs.nil
 |x::xs=>Limbs.mk (bR _ aC) (auT r xs)
theorem biH(r:Nat)(h:i<xs.length):(axF r xs).getD i 0=(xs.getD i 0+xs.getD (i+1) 0*4294967296)/2^r%4294967296:=by
 induction xs generalizing i with
 |nil=>simp at h
 |cons x xs ih=>
  rw[axF];cases i with
  |zero=>rw[eP,eP,dF]
  |succ i=>rw[dF,dF,dF];exact ih (by simpa using h)
theorem byK{x y W P D:Nat}(hr:2^r=P)(hB:4294967296=P*D)(hx:x<4294967296):
  (x+4294967296*(y+4294967296*W))/P=(x+y*4294967296)/P%4294967296+4294967296*((y+4294967296*W)/P):=by
 have hP:0<P:=by rw[←hr];exact bL aC
 have hD:0<D:=by
  rcases bF D with h|h
  ·grind
  exact h
 have hxD:x/P<D:=by rw[bW hP,bM,←hB];exact hx
 have e1:∀Z,(x+4294967296*Z)/P=x/P+D*Z:=λZ=>by rw[hB,bJ,fR _ _ hP]
 rw[e1,bM y,e1];generalize hV:y+4294967296*W=V;have ht:V%P=y%P:=by rw[←hV,hB,bJ,dW]
 have hm:=bR y hP;have e2:D*V=D*(y%P)+4294967296*(V/P):=by
  rw[←ht]
  conv=>lhs;rw[←cM V P]
  rw[cB,hB,←bJ,bM D P];omega
 have e3:D*y=D*(y%P)+4294967296*(y/P):=by
  conv=>lhs;rw[←cM y P]
  rw[cB,hB,←bJ,bM D P];omega
 have hlt:x/P+D*(y%P)<4294967296:=by
  have h1:D*(y%P+1)≤D*P:=bS _ hm;rw[cB,bM D P,←hB]at h1;omega
 rw[e2,e3,←fA,←fA,dW,bH hlt]
theorem axE{r:Nat}(hr:r≤32):∀{xs:List Nat},Limbs xs→val (axF r xs)=val xs/2^r
 | [],_=>by simp[axF,val]
 |x::xs,h=>by
  obtain⟨hx,hxs⟩:=h.cons;rw[axF,val,val,axE hr hxs];have hB:4294967296=2^r*2^(32-r):=by rw[←bI,show r+(32-r)=32 by omega]
  cases xs with
  |nil=>
   simp only[val,List.getD_nil,dO,dJ,cA,Nat.zero_div];rw[bH];exact bA (dP _ _) hx
  |cons y ys=>
   rw[eP,val];exact(byK rfl hB hx).symm
theorem cgA(hl:A.length=Z.length)(hi:i<Z.length):(A.take i++Z.drop i).set i (A.getD i 0)=A.take (i+1)++Z.drop (i+1):=by
 have hA:i<A.length:=by omega
 rw[List.set_append_right _ _ (by rw[aV];omega),aV,show i-min i A.length=0 by omega,cL hi,List.set_cons_zero,←cI hA,bK,aP,aX hA];rfl
theorem brJ{j:Nat}(hl:A.length=Z.length)(hi:i≤Z.length)(hj:i≤j):(A.take i++Z.drop i).getD j 0=Z.getD j 0:=by
 grind
theorem beB(hl:A.length=Z.length)(hi:i≤Z.length):(A.take i++Z.drop i).length=Z.length:=by
 grind
theorem bpG{ys:List Nat}{m:Nat}(h:ys.length=m):(List.replicate m 0).take 0++ys.take m++(List.replicate m 0).drop (0+min ys.length m)=ys:=by
 grind
theorem agG(h:k≤xs.length):val xs=val (xs.take k)+4294967296^k*val (xs.drop k):=by
 have:=qW (xs.take k) (xs.drop k);rw[cK,aV,cZ h]at this;exact this
theorem anO(hx:Limbs xs)(h:k≤xs.length):val (xs.take k)<4294967296^k:=by
 have:=aeO (hx.take k)
 rwa[aV,cZ h]at this
theorem anC(hx:Limbs xs)(h:k≤xs.length):val (xs.drop k)=val xs/4294967296^k:=by
 have h1:=agG h;have h2:=anO hx h;rw[h1,fR _ _ (bL aC),cD h2,bZ]
theorem cfZ{s:Nat}(h:s/32≤(zF v).length):val (axF (s%32) ((zF v).drop (s/32)))=v/2^s:=by
 rw[axE aA ((zH v).drop _),anC (zH v) h,zN,cC,amM]
theorem byJ{s:Nat}(h:(zF v).length≤s/32):v<2^s:=by
 have h1:=qH.1 h;have h2:4294967296^(s/32)≤2^s:=by
  rw[←amM];exact fD _ (bL aC)
 omega
theorem bjQ{s:Nat}(h:s/32<(zF v).length):v%2^s=0↔qG ((zF v).take (s/32))=0∧(zF v).getD (s/32) 0%2^(s%32)=0:=by
 have h1:=agG (dK h);have h2:=anO (zH v) (dK h);rw[zN]at h1;have e:v%2^s=val ((zF v).take (s/32))+4294967296^(s/32)*((zF v).getD (s/32) 0%2^(s%32)):=by
  rw[←amM,Nat.mod_mul];have hd:(zF v).drop (s/32)=(zF v).getD (s/32) 0::(zF v).drop (s/32+1):=by
   rw[cL h,aP,aX h];rfl
  have h3:v/4294967296^(s/32)=(zF v).getD (s/32) 0+4294967296*val ((zF v).drop (s/32+1)):=by
   have:=anC (zH v) (dK h);rw[hd,zN,val]at this;exact this.symm
  have h4:v%4294967296^(s/32)=val ((zF v).take (s/32)):=by
   conv=>lhs;rw[h1]
   rw[dW,bH h2]
  rw[h3,h4];congr 2;rw[show(4294967296:Nat)=2^(s%32)*2^(32-s%32) by rw[←bI,show s%32+(32-s%32)=32 by omega],bJ,dW]
 rw[e];have hp:0<4294967296^(s/32):=bL aC;constructor
 ·intro h;refine⟨aaL aA,?_⟩;have h0:4294967296^(s/32)*((zF v).getD (s/32) 0%2^(s%32))=0:=by omega
  rcases Nat.mul_eq_zero.1 h0 with h5|h5
  ·omega
  exact h5
 rintro⟨h5,h6⟩;rw[aaK h5,h6];rfl
section
open Go Go.RowKit
set_option maxRecDepth 100000
theorem chO{s:Nat}(h:s/32<(zF v).length)(hg:decide (((0:Nat):Int)<(qG ((zF v).take (s/32)):Int))=false):decide (¬(((((zF v).drop (s/32)).getD 0 0&&&(1*2^(s%32)-1):Nat):Int)=((0:Nat):Int)))=decide (v%2^s≠0):=by
 have e:((zF v).drop (s/32)).getD 0 0=(zF v).getD (s/32) 0:=by
  rw[aP,aP,eK];rfl
 have hg2:qG ((zF v).take (s/32))=0:=by simpa using hg
 have hl:=bjQ h;rw[aQ,e,cQ,ccW];constructor
 ·intro h1 h2;exact h1 (by rw[(hl.1 h2).2])
 intro h1 h2;exact h1 (hl.2 ⟨hg2,by omega⟩)
theorem chP:decide (((0:Nat):Int)<((zF v).length:Int))=decide (v≠0):=by
 rw[aQ];rcases bF v with h|h
 ·subst h;rw[aaU];simp
 rw[qV h];simp;omega
def cjP(v s:Nat)(b:Nat)(H:Heap):Nat→Env→Heap→Prop:=λk env H1=>∃i:Nat,i≤((zF v).length-s/32)∧env=[(8,.bool (decide (v%2^s≠0))),(9,.mslice (some ⟨b,0,none⟩) ((zF v).length-s/32) ((zF v).length-s/32)),(10,.int .i64 ((s%32:Nat):Int)),(66,.int .i64 ((((zF v).length-s/32):Nat):Int)),(67,.int .i64 (i:Int))]∧H1=H.set b (.box 210 (U .u32 ((axF (s%32) ((zF v).drop (s/32))).take i++((zF v).drop (s/32)).drop i)))∧k=((zF v).length-s/32)-i
theorem bwY(xs:List Nat)(tl:Tail)(hx:Limbs xs)(hl:xs.length≤1000000)(s:Nat)(hs:val xs<BIG)(hs2:s<1000000000):Fn 169 [.slice 1 (U .u32 xs) tl,.int .i64 (s:Int)] (.tuple [qX (val xs/2^s),.bool (decide (val xs%2^s≠0)),.int .i64 0]):=by
 intro H;have h256:=yM hs;have hr:=aaR xs;have hrl:=abD hx;refine .of_body func169 rfl ntmps169 results169 rfl ?_;iterate 16 refine AM ?_
 refine .cx rfl (λhc13=>?_) (λhc13=>?_)
 ·omega
 iterate 3 refine AX ?_
 refine .e rfl (yJ U314 Z159 V159 rfl (tm rfl) (.inl rfl) ⟨rfl,rfl⟩) (.cl rfl C193 (evs1 rfl) (arW _ _ _ aB aB _) ?_);iterate 3 refine AX ?_
 refine .cx rfl (λhc16=>?_) (λhc16=>?_)
 ·omega
 iterate 6 refine AX ?_
 refine .cl rfl C194 (evs1 rfl) (aaG _ _ aB aB _) ?_;iterate 3 refine AX ?_
 refine .seqToL [(7,.int .i64 ((min (s/32) (zF (val xs)).length:Nat):Int))] [0,1,4,5,6] ?_ ?_
 ·iterate 8 refine AM ?_
  exact⟨rfl,(zR rfl (by congr 1;simp only[asK];first|omega|(split<;>omega)) sX),rfl⟩
 refine .sub [(7,_),(0,_),(1,_),(4,_),(5,_),(6,_)] sX ?_;refine AX ?_;generalize hK:min (s/32) (zF (val xs)).length=K;generalize val xs=v at *;have htk:=(zH v).take K;have htl:((zF v).take K).length≤1000000:=by simp;omega
 have hp2:1≤2^(s%32):=bL aC;have hp3:2^(s%32)≤2147483648:=bC (bB aC (by omega:s%32≤31)) aC;iterate 3 refine AX ?_
 refine .p rfl (adE (_) U159 Z210 (tm rfl) (tm rfl) rfl aA) (.cl rfl C240 (evs1 rfl) (acP _ _ aB aB _) ?_);iterate 10 refine AM ?_
 refine .s rfl (yQ ((zF v).length-K) U159 typeInfo210 Z210 V210 (tm rfl) (tm rfl) aA aA aC aA) ?_;rintro _ _ ⟨b36,rfl,hb36,hH⟩;obtain rfl:=hH.symm;iterate 8 refine AX ?_
 refine .p rfl (amG (_) U159 Z210 (tm rfl) (tm rfl) rfl aA) (.e rfl (anP U159 Z210 (tm rfl) (tm rfl) (oS _ _ _) (by(simp;done))) ?_);try first|rw[sS]|rw[sU aB]
 iterate 3 refine AX ?_
 rw[bpG aF];iterate 2 refine AX ?_
 refine .p rfl (alI (tm rfl) (yB 32) aA) ?_;iterate 4 refine AX ?_
 refine .seqTo 52 (.bool (decide ((zF v).length≤s/32))) [4,5,6,8,9,10] ?_ ?_
 ·iterate 5 refine AM ?_
  refine zD (t:=47) rfl (λhg47=>?_) (λhg47=>?_)
  ·iterate 6 refine AX ?_
   exact⟨rfl,zS rfl (by(simp at hg47;simp;omega)) sX,rfl⟩
  iterate 6 refine AM ?_
  exact⟨rfl,zS rfl (by(simp at hg47;simp;omega)) sX,rfl⟩
 refine .sub [(52,_),(4,_),(5,_),(6,_),(8,_),(9,_),(10,_)] sX ?_;refine .cx rfl (λhc52=>?_) (λhc52=>?_)
 ·refine AX ?_;refine .frzU (t:=9) rfl hb36 (by simp<;>omega) (aZ _) (by simp only[zQ];omega) ?_;iterate 10 refine AM ?_
  refine⟨?_,rfl⟩;have hle:(zF v).length≤s/32:=by omega
  have hvs:=byJ hle;rw[aY aA,aiF,cD hvs,bH hvs,chP];rfl
 have hK2:K=s/32:=by omega
 subst hK2;have hlt:s/32<(zF v).length:=by omega
 have hli:=bjQ hlt;have hx00:=Limbs.getD ((zH v).drop (s/32)) 0;have hAl:(axF (s%32) ((zF v).drop (s/32))).length=((zF v).drop (s/32)).length:=apN _ _;have hZl:((zF v).drop (s/32)).length=((zF v).length-s/32):=bO;iterate 2 refine AX ?_
 refine .seqTo 8 (.bool (decide (v%2^s≠0))) [4,5,6,9,10] ?_ ?_
 ·refine bhA (t:=8) rfl (λhg8=>?_) (λhg8=>?_)
  ·refine .draw [(0,true),(1,true),(2,true),(3,true),(4,true),(5,true),(6,true),(7,true),(8,true),(9,true),(10,true),(11,true)] rfl aE ?_;iterate 13 refine AX ?_
   exact⟨rfl,zS rfl (by(simp at hg8;simp;omega)) sX,rfl⟩
  refine .draw [(0,true),(1,true),(2,true),(3,true),(5,true),(6,true),(7,true),(4,false),(8,true),(9,true),(10,true),(11,true)] rfl aE ?_;iterate 3 refine AX ?_
  refine .gp rfl rfl rfl rfl aB (yG (0) U159 Z210 (tm rfl) (yB 0) aA aA) ?_;refine AX ?_;refine .gp rfl rfl rfl rfl aB (arO (yB 1) (tm rfl) aA aA) (.gp rfl rfl rfl rfl aB (bfF (tm rfl) (yB 1) aA aA) (.gs rfl rfl rfl rfl aB (qJ G210 (tm rfl) (oS _ _ _) aA) ?_));rintro _ _ ⟨rfl,hH⟩;obtain rfl:=hH.symm;refine .gp rfl rfl rfl rfl aB (ajU (tm rfl) (tm rfl) aB aA) ?_;iterate 4 refine AM ?_
  exact⟨rfl,zS rfl (chO hlt hg8) sX,rfl⟩
 refine .sub [(8,_),(4,_),(5,_),(6,_),(9,_),(10,_)] sX ?_;iterate 9 refine AM ?_
 refine .loopW (cjP v s b36 H) (((zF v).length-s/32)) ⟨0,Nat.zero_le _,rfl,rfl,rfl⟩ sX (hRa _) ?_;rintro _ _ _ ⟨i,hi,rfl,rfl,hk⟩;iterate 6 refine AX ?_
 refine .cx rfl (λhc68=>?_) (λhc68=>?_)
 ·have hi2:i<((zF v).length-s/32):=by omega
  have hrl2:=beB hAl (by omega:i≤((zF v).drop (s/32)).length);have hg0:=brJ hAl (by omega:i≤((zF v).drop (s/32)).length) (aZ i);have hg1:=brJ hAl (by omega:i≤((zF v).drop (s/32)).length) (by omega:i≤i+1);have hx0:=Limbs.getD ((zH v).drop (s/32)) i;have hx1:=Limbs.getD ((zH v).drop (s/32)) (i+1);iterate 14 refine AX ?_
  refine .p rfl (yG (i) U159 Z210 (tm rfl) (tm rfl) aA aA) (.e rfl (qJ G210 (tm rfl) (oS _ _ _) aA) ?_);iterate 4 refine AX ?_
  refine .seqToL [(12,.int .u64 ((((zF v).drop (s/32)).getD i 0+((zF v).drop (s/32)).getD (i+1) 0*4294967296:Nat):Int))] [8,9,10,66,67,11] ?_ ?_
  ·iterate 9 refine AM ?_
   refine .cx rfl (λhc79=>?_) (λhc79=>?_)
   ·iterate 5 refine AM ?_
    refine .p rfl (yG (i+1) U159 Z210 (tm rfl) (tm rfl) aA aA) (.e rfl (qJ G210 (tm rfl) (oS _ _ _) aA) ?_);refine AX ?_;refine .p rfl (qZ (tm rfl) (yB 32) aA (by rw[show(2:Nat)^32=4294967296 by decide];omega)) (.p rfl (abK (tm rfl) (tm rfl) aA aA) ?_);iterate 2 refine AX ?_
    exact⟨rfl,(zR rfl (by(rw[hg0,hg1,bfW (k:=32) (fM hx0 aC)]<;>rfl)) sX),rfl⟩
   refine AX ?_;exact⟨rfl,(zR rfl (by(rw[hg0,aeX (i:=i+1) aA,dO]<;>rfl)) sX),rfl⟩
  refine .sub [(12,_),(8,_),(9,_),(10,_),(66,_),(67,_),(11,_)] sX ?_;iterate 5 refine AX ?_
  refine .p rfl (aaM (tm rfl) (tm rfl) aA) ?_;refine AX ?_;refine .p rfl (yG (i) U159 Z210 (tm rfl) (tm rfl) aA aA) (.e0 (qE Z210 (tm rfl) (tm rfl) (oS _ _ _) aA) ?_);try first|rw[sS]|rw[sU aB]
  iterate 8 refine AM ?_
  refine Round.mk ⟨i+1,by omega,rfl,by rw[←cgA hAl aA,biH _ aA];rfl,rfl⟩ sX (hRa _) aA
 iterate 6 refine AX ?_
 have hi3:i=((zF v).length-s/32):=by omega
 refine .frzU (t:=9) rfl hb36 (by rw[beB hAl aA];omega) (aZ _) (by simp only[zQ];omega) ?_;rw[aY (l:=_++_) (by rw[beB hAl aA];omega),aY (l:=axF (s%32) ((zF v).drop (s/32))) aA,cS (l:=((zF v).drop (s/32))) aA,bU];have hAL:=auT (s%32) ((zF v).drop (s/32));iterate 2 refine AX ?_
 refine .cl rfl C194 (evs1 rfl) (aaG _ _ aB aA _) ?_;iterate 8 refine AM ?_
 refine⟨?_,rfl⟩;rw[cfZ aA];rfl
end
section
open Go Go.RowKit
set_option maxRecDepth 100000
theorem akY(h:n<BIG):(zF n).length≤1000000:=bC (yM h) aC
theorem addB(a b:Nat)(h:a+b<BIG):Fn 107 [qX a,qX b] (.tuple [qX (a+b),.int .i64 0]):=by
 intro H;have:=bdJ (zF a) .shared (zH a) (akY aA) (zF b) .shared (zH b) (akY aA) H
 rwa[zN,zN,ceO,avF h]at this
theorem mulB(a b:Nat)(ha:a<BIG)(hb:b<BIG)(h:a*b<BIG):Fn 106 [qX a,qX b] (.tuple [qX (a*b),.int .i64 0]):=by
 intro H;have:=bxA (zF a) .shared (zH a) (akY ha) (zF b) .shared (zH b) (akY hb) H
 rwa[zN,zN,cmA,avF ⟨ha,hb,h⟩]at this
theorem shlB(a s:Nat)(h:a*2^s<BIG)(hs:s<1000000000):Fn 168 [qX a,.int .i64 (s:Int)] (.tuple [qX (a*2^s),.int .i64 0]):=by
 intro H;have:=atE (zF a) .shared (zH a) (akY (amV h)) s (by rwa[zN]) hs H
 rwa[zN]at this
theorem shrB(a s:Nat)(h:a<BIG)(hs:s<1000000000):Fn 169 [qX a,.int .i64 (s:Int)] (.tuple [qX (a/2^s),.bool (decide (a%2^s≠0)),.int .i64 0]):=by
 intro H;have:=bwY (zF a) .shared (zH a) (akY h) s (by rwa[zN]) hs H
 rwa[zN]at this
theorem lenB(a:Nat)(h:a<BIG):Fn 241 [qX a] (.int .i64 (yN a:Int)):=by
 intro H;have:=bdG (zF a) .shared (zH a) (akY h) H
 rwa[zN]at this
theorem cmpB(a b:Nat)(ha:a<BIG)(hb:b<BIG):Fn 189 [qX a,qX b] (.int .i64 (azE a b)):=by
 intro H;have:=bxI (zF a) .shared (zH a) (akY ha) (zF b) .shared (zH b) (akY hb) H
 rwa[zN,zN]at this
def ckG(b n:Nat)(H:Heap):Nat→Env→Heap→Prop:=λk env H1=>∃i:Nat,i≤n∧env=[(0,.int .i64 (b:Int)),(6,qX (b^i)),(7,.int .i64 0),(30,.int .i64 (n:Int)),(31,.int .i64 (i:Int))]∧H=H1∧k=n-i
theorem atG(b n:Nat)(hb:2≤b)(hb2:b≤1000000)(hn2:n<1000000000)(h:b^n<BIG):Fn 170 [.int .i64 (b:Int),.int .i64 (n:Int)] (.tuple [qX (b^n),.int .i64 0]):=by
 intro H;refine .of_body func170 rfl ntmps170 results170 rfl ?_;iterate 3 refine AM ?_
 iterate 4 refine AX ?_
 refine .seqTo 17 (.bool (false)) [0,1,4,5] ?_ ?_
 ·iterate 4 refine AX ?_
  refine zD (t:=10) rfl (λhg10=>?_) (λhg10=>?_)
  ·iterate 2 refine AX ?_
   refine .p rfl (yI (tm rfl) aB zT) ?_;iterate 5 refine AX ?_
   exact⟨rfl,zS rfl (by(simp at hg10;omega)) sX,rfl⟩
  iterate 4 refine AX ?_
  refine zD (t:=14) rfl (λhg14=>?_) (λhg14=>?_)
  ·iterate 4 refine AX ?_
   exact⟨rfl,zS rfl (by(simp at hg14;omega)) sX,rfl⟩
  iterate 4 refine AX ?_
  exact⟨rfl,zS rfl aD sX,rfl⟩
 refine .sub [(17,_),(0,_),(1,_),(4,_),(5,_)] sX ?_;refine .cond_false (tm rfl) aD ?_;iterate 4 refine AX ?_
 refine .e rfl (yJ U159 Z210 V210 rfl (yB 1) (.inl rfl) ⟨rfl,rfl⟩) ?_;iterate 5 refine AX ?_
 refine .seqTo 19 (.bool (false)) [0,1,4,5,6] ?_ ?_
 ·iterate 4 refine AX ?_
  refine zD (t:=22) rfl (λhg22=>?_) (λhg22=>?_)
  ·iterate 5 refine AX ?_
   exact⟨rfl,zS rfl (by(simp at hg22;omega)) sX,rfl⟩
  iterate 5 refine AX ?_
  exact⟨rfl,zS rfl aD sX,rfl⟩
 refine .sub [(19,_),(0,_),(1,_),(4,_),(5,_),(6,_)] sX ?_;refine .cond_false (tm rfl) aD ?_;iterate 7 refine AX ?_
 refine .cx rfl (λhc26=>?_) (λhc26=>?_)
 ·omega
 iterate 4 refine AX ?_
 refine .weakv (qX (b^0)) (t:=6) rfl (.slice _ _ _) ?_;iterate 12 refine AX ?_
 refine .loopW (ckG b n H) (n) ⟨0,Nat.zero_le _,rfl,rfl,rfl⟩ sX (hRa _) ?_;rintro _ _ _ ⟨i,hi,rfl,rfl,hk⟩;iterate 6 refine AX ?_
 refine .cx rfl (λhc32=>?_) (λhc32=>?_)
 ·have hle:b^(i+1)≤b^n:=bB aA aA;have hp:b^i*b<BIG:=bA hle h;have hp0:b^i≤b^n:=bB aA aA;have hbB:b<BIG:=bA hb2 (by unfold BIG;decide+kernel);have hiB:b^i<BIG:=by omega
  iterate 9 refine AX ?_
  refine .cl rfl C93 (evs1 rfl) (aeA _ aA _) (.cl rfl C106 (evs2 rfl rfl) (mulB _ _ aB aB aB _) ?_);iterate 13 refine AX ?_
  refine .cond_false (tm rfl) aD ?_;iterate 8 refine AX ?_
  refine Round.mk ⟨i+1,by omega,rfl,rfl,rfl⟩ sX (hRa _) aA
 iterate 14 refine AX ?_
 refine⟨?_,rfl⟩;rw[show i=n by omega];rfl
end
section
open Go Go.RowKit
set_option maxRecDepth 100000
theorem bbW(hn:ws.length=n)(ho:o≤zs.length):((mid zs o ws).drop o).take n=ws:=by
 unfold mid;have e:(zs.take o).length=o:=by rw[aV];omega
 rw[bK,eI aA,cS aA,cH,dU aA,aY aA]
theorem bpF(h:r≤xs.length):(List.replicate r 0).take 0++xs.take r++(List.replicate r 0).drop (0+min xs.length r)=xs.take r:=by
 rw[cS aG];simp
theorem bwM{a:Nat}(h:azE a b<0):a<b:=by
 unfold azE at h;split at h
 ·assumption
 split at h<;>simp at h
theorem ceW{a:Nat}(h:¬azE a b<0):b≤a:=by
 unfold azE at h;split at h
 ·simp at h
 omega
theorem chQ(h:(zF b).length=1):zF b=[b]∧0<b∧b<4294967296:=by
 have h0:0<b:=by
  rcases bF b with h1|h1
  ·rw[h1,aaU]at h;simp at h
  exact h1
 have h1:=qH.1 (Nat.le_of_eq h);refine⟨?_,h0,by omega⟩;rw[qV h0,show b/4294967296=0 by omega,bH aA];rfl
theorem bkW(xs:List Nat)(tl:Tail)(hx:Limbs xs)(hl:xs.length≤1000000)(H:Heap):ACall prog 171 [.slice 1 (U .u32 xs) tl] H (λy H'=>∃b:Nat,H.objs b=none∧y= .mslice (some ⟨b,0,none⟩) (zF (val xs)).length (zF (val xs)).length∧H'=H.set b (.box 210 (U .u32 (zF (val xs))))):=by
 have hr:=aaR xs;have hrl:=abD hx;refine .of_body func171 rfl ntmps171 results171 rfl ?_;iterate 8 refine AX ?_
 refine .cl rfl C240 (evs1 rfl) (acP _ _ aB aB _) (.s rfl (yQ (_) U159 typeInfo210 Z210 V210 (tm rfl) (tm rfl) rfl rfl aC aA) ?_);rintro _ _ ⟨b6,rfl,hb6,hH⟩;obtain rfl:=hH.symm;iterate 7 refine AX ?_
 refine .e rfl (anP U159 Z210 (tm rfl) (tm rfl) (oS _ _ _) (by(simp;done))) ?_;try first|rw[sS]|rw[sU aB]
 iterate 10 refine AX ?_
 rw[bpF hr,adJ hx,hrl];exact⟨b6,hb6,rfl,rfl⟩
theorem cutB(a:Nat)(h:(zF a).length≤1000000):Fn 194 [qX a] (qX a):=by
 intro H;have:=aaG (zF a) .shared (zH a) h H
 rwa[zN]at this
end
section
open Go Go.RowKit
set_option maxRecDepth 100000
def biM(b n c:Nat)(zs:List Nat)(H:Heap):Nat→Env→Heap→Prop:=λk env H1=>∃i:Nat,i≤n∧qG (zs.take i)=qG (zs.take n)∧env=[(0,.mslice (some ⟨b,0,none⟩) n c),(3,.int .i64 (i:Int))]∧H=H1∧k=i
theorem baV(b n c:Nat)(zs:List Nat)(_:Limbs zs)(hn:n≤zs.length)(hn2:n≤1000000)(_:n≤c)(H:Heap)(hb:H.objs b=some (.box 210 (U .u32 zs))):ACall prog 240 [.mslice (some ⟨b,0,none⟩) n c] H (λy H'=>y= .int .i64 (qG (zs.take n):Int)∧H'=H):=by
 refine .of_body func240 rfl ntmps240 results240 rfl ?_;iterate 14 refine AX ?_
 refine .loopW (biM b n c zs H) (n) ⟨n,aZ _,rfl,rfl,rfl,rfl⟩ sX (hRa _) ?_;rintro _ _ _ ⟨i,hi,hr,rfl,rfl,hk⟩;refine AX ?_;refine .seqTo 15 (.bool (decide (0<(i:Int))&&decide (((zs.getD (i-1) 0:Nat):Int)=0))) [0,3] ?_ ?_
 ·iterate 4 refine AX ?_
  refine zD (t:=8) rfl (λhg8=>?_) (λhg8=>?_)
  ·have hh8:=hg8;try simp only[aT]at hh8
   iterate 3 refine AX ?_
   refine .gp rfl rfl rfl aB (yG (i-1) U159 Z210 (tm rfl) (tm rfl) aA aA) (.gs rfl rfl rfl aB (qJ G210 (tm rfl) aB aA) ?_);rintro _ _ ⟨rfl,hH⟩;obtain rfl:=hH.symm;iterate 3 refine AM ?_
   exact⟨rfl,zS rfl aI sX,rfl⟩
  have hh8:=hg8;try simp only[aR,cU]at hh8
  iterate 8 refine AX ?_
  exact⟨rfl,zS rfl aI sX,rfl⟩
 refine .sub [(15,_),(0,_),(3,_)] sX ?_;refine .cx rfl (λhc15=>?_) (λhc15=>?_)
 ·simp only[bN,aT]at hc15;iterate 10 refine AX ?_
  have hs:=acC (xs:=zs) (k:=i-1) aA;rw[show i-1+1=i by omega,aK]at hs;refine Round.mk ⟨i-1,by omega,by rw[←hs,hr],rfl,rfl,rfl⟩ (zK rfl (zR rfl (by rw[show((i:Int)-1)=((i-1:Nat):Int) by omega]) yF)) (hRa _) aA
 simp only[cJ,aR]at hc15;iterate 13 refine AX ?_
 refine⟨?_,rfl⟩;have hq:i=qG (zs.take n):=by
  rcases bF i with h0|h0
  ·subst h0;rw[←hr];rfl
  have hs:=acC (xs:=zs) (k:=i-1) aA;rw[show i-1+1=i by omega,aJ,hr]at hs;exact hs.symm
 rw[←hq];rfl
theorem bpB(b n c:Nat)(zs:List Nat)(hz:Limbs zs)(hn:n≤zs.length)(hn2:n≤1000000)(hc:n≤c)(H:Heap)(hb:H.objs b=some (.box 210 (U .u32 zs))):ACall prog 194 [.mslice (some ⟨b,0,none⟩) n c] H (λy H'=>y= .mslice (some ⟨b,0,none⟩) (qG (zs.take n)) c∧H'=H):=by
 have hr:=aaR (zs.take n);have hrt:(zs.take n).length=n:=by simp;omega
 refine .of_body func194 rfl ntmps194 results194 rfl ?_;iterate 9 refine AX ?_
 refine .cl rfl C240 (evs1 rfl) (baV _ _ _ zs hz hn hn2 hc _ hb) (.p rfl (axV (_) U159 Z210 (tm rfl) (tm rfl) rfl aA) ?_);iterate 5 refine AX ?_
 exact⟨rfl,rfl⟩
end
section
open Go
def dgt(n:Nat):UInt8:=UInt8.ofNat (48+n)
def bqA:Nat→Nat→List UInt8→List UInt8
 |0,_,acc=>acc
 |f+1,n,acc=>if n<10 then dgt n::acc else bqA f (n/10) (dgt (n%10)::acc)
def dec(n:Nat):List UInt8:=bqA (n+1) n []
theorem anF:∀(f n:Nat)(acc:List UInt8),bqA f n acc=bqA f n []++acc
 |0,_,_=>rfl
 |f+1,n,acc=>by
  unfold bqA;split
  ·rfl
  rw[anF f (n/10) (dgt (n%10)::acc),anF f (n/10) [dgt (n%10)],bK];rfl
theorem bcX:∀(f g n:Nat),n<f→n<g→bqA f n []=bqA g n []
 |0,_,n,h,_=>absurd h (Nat.not_lt_zero n)
 |_+1,0,n,_,h=>absurd h (Nat.not_lt_zero n)
 |f+1,g+1,n,h1,h2=>by
  unfold bqA;split
  ·rfl
  rw[anF f,anF g,bcX f g (n/10) aA aA]
theorem akZ(h:n<10):dec n=[dgt n]:=by
 unfold dec bqA;rw[aN h]
theorem anE(h:10≤n):dec n=dec (n/10)++[dgt (n%10)]:=by
 unfold dec;rw[show bqA (n+1) n []=bqA n (n/10) [dgt (n%10)] by rw[bqA,aJ],anF,bcX n (n/10+1) (n/10) aA aA]
theorem ciP(n:Nat):Lib.decDigits n=dec n:=by
 induction n using Nat.strongRecOn with
 |ind n ih=>
  unfold Lib.decDigits;split
  ·rename_i h;rw[akZ h];rfl
  rename_i h;rw[ih _ aA,anE (n:=n) aA];rfl
theorem cbJ(n:Nat):Lib.itoa ((n:Nat):Int)=dec n:=by
 unfold Lib.itoa;rw[aJ,dZ,ciP]
theorem bgW(n:Nat):0<(dec n).length:=by
 rcases bX n 10 with h|h
 ·rw[akZ h];simp
 rw[anE h];simp
theorem afX(hk:0<k):(dec n).length≤k↔n<10^k:=by
 induction k generalizing n with
 |zero=>omega
 |succ k ih=>
  rcases bX n 10 with h|h
  ·rw[akZ h];have:10^1≤10^(k+1):=bB aC aA;simp only[aW,bG];omega
  rw[anE h,aO,aW,bG];rcases bF k with h0|h0
  ·subst h0;have:=bgW (n/10);rw[show(10:Nat)^(0+1)=10 by decide];omega
  rw[Nat.add_le_add_iff_right,ih h0,bP,bW aC]
def pad:Nat→Nat→List UInt8
 |0,_=>[]
 |k+1,r=>pad k (r/10)++[dgt (r%10)]
theorem bwG:∀(k:Nat),10^k≤n→dec n=dec (n/10^k)++pad k (n%10^k):=by
 intro k;induction k generalizing n with
 |zero=>intro _;rw[eA,gI,pad,bU]
 |succ k ih=>
  intro h;have hp:0<10^k:=bL aC;have h1:10^k≤n/10:=by rw[eB aC,←bP];exact h
  rw[anE aA,ih h1,cC,bK,pad,bM 10,←bP];congr 2
  ·congr 1
   rw[bP,bM (10^k) 10,Nat.mod_mul_right_div_self]
  rw[bP,bM (10^k) 10,Nat.mod_mul_right_mod]
theorem bjC:∀k:Nat,pad k 0=List.replicate k 48
 |0=>rfl
 |k+1=>by rw[pad,Nat.zero_div,bjC k,List.replicate_succ'];rfl
theorem cgQ(hk:0<k)(h:r<10^k):pad k r=List.replicate (k-(dec r).length) 48++dec r:=by
 induction k generalizing r with
 |zero=>omega
 |succ k ih=>
  rcases bX r 10 with h1|h1
  ·rw[akZ h1,pad,show r/10=0 by omega,bjC,bH h1];simp
  have hk0:0<k:=by
   rcases bF k with h0|h0
   ·subst h0;simp at h;omega
   exact h0
  rw[anE h1,pad,ih hk0 (by rw[bW aC,←bP];exact h),aO,bK];congr 2;simp only[aW,bG];omega
theorem ccD(h:0<v/1000000000):dec v=dec (v/1000000000)++(List.replicate (9-(dec (v%1000000000)).length) 48++dec (v%1000000000)):=by
 rw[←cgQ aC (bR _ aC:v%1000000000<10^9)];exact bwG 9 aA
theorem asV(h:n<BIG):(dec n).length≤2500:=
 (afX aC).2 (bQ h (by unfold BIG;decide+kernel))
end
end Go.Proofs.YteedncdcbgplfaaGreatDoor
