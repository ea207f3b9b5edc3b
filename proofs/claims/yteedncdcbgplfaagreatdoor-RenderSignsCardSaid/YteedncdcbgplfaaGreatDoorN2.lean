import Derived.Test.YteedncdcbgplfaaGreatDoorYd
set_option maxHeartbeats 1000000
namespace Go.Proofs.YteedncdcbgplfaaGreatDoor
open Go.Proofs.Tryz
open Go Go.RowKit
variable{A Z ws xs zs:List Nat}{i k n o r v:Nat}
section
set_option maxRecDepth 100000
def mid(zs:List Nat)(o:Nat)(ws:List Nat):List Nat:=zs.take o++ws++zs.drop (o+ws.length)
theorem ajI(hn:ws.length=n)(h:o+n≤zs.length):(mid zs o ws).length=zs.length:=by
 unfold mid;simp;omega
theorem bdX(h:o+n≤zs.length):mid zs o ((zs.drop o).take n)=zs:=by
 unfold mid;rw[aU,bC,show min n (zs.length-o)=n by omega,bF];rw[←List.drop_drop,cO,cO]
theorem bmH(ho:o≤zs.length)(hi:i<ws.length):(mid zs o ws).set (o+i) v=mid zs o (ws.set i v):=by
 unfold mid;rw[bR,bF,bF,List.set_append_right _ _ (by rw[aU];omega),aU,show o+i-min o zs.length=i by omega,List.set_append_left _ _ hi]
theorem bwA(ho:o≤zs.length)(hi:i<ws.length):(mid zs o ws).getD (o+i) 0=ws.getD i 0:=by
 unfold mid;rw[aS,aS,bF,eG (by rw[aU];omega),aU,show o+i-min o zs.length=i by omega,dB hi]
theorem akJ(hz:Limbs zs)(hw:Limbs ws):Limbs (mid zs o ws):=((hz.take _).append hw).append (hz.drop _)
theorem buN(xs:List Nat)(n:Nat):∃q,val xs=val (xs.take n)+4294967296^n*q:=by
 rcases bV xs.length n with h|h
 ·exact⟨0,by rw[aZ aA];omega⟩
 refine⟨val (xs.drop n),?_⟩;have:=aaI (xs.take n) (xs.drop n);rw[cO,aU,cQ h]at this;exact this
theorem atA{j:Nat}(h:j<n-0):((zs.drop o).take n).getD j 0=zs.getD (o+j) 0:=by
 rw[aS,aS,eB,aK,cV]
theorem azV{d:Nat}(hd:0<d)(hw:ws.length=n)(hi:i<n)(hn:o+n≤zs.length)(hg:ws.getD (n-1-i) 0=zs.getD (o+(n-1-i)) 0)(h:val (ws.drop (n-i))*d+r=val (((zs.drop o).take n).drop (n-i))):
  val ((ws.set (n-1-i) ((r*4294967296+zs.getD (o+(n-1-i)) 0)/d)).drop (n-(i+1)))*d+(r*4294967296+zs.getD (o+(n-1-i)) 0)%d=val (((zs.drop o).take n).drop (n-(i+1))):=by
 have e:=atA (zs:=zs) (o:=o) (n:=n) (j:=n-1-i) aA;rw[←e]at hg ⊢;rw[show n-i=n-1-i+1 by omega]at h;rw[show n-(i+1)=n-1-i by omega];exact arV hd aA aG hg h
def bjT(xs:List Nat)(tl:Tail)(b o n cp s:Nat)(zs:List Nat)(H:Heap):Nat→Env→Heap→Prop:=λk env H1=>∃(i c:Nat)(ws:List Nat),i≤n∧ws.length=n∧Limbs ws∧c<2^s∧val (ws.take i)+4294967296^i*c=val (xs.take i)*2^s∧env=[(0,.mslice (some ⟨b,o,none⟩) n cp),(1,.slice 1 (U .u32 xs) tl),(2,.int .i64 (s:Int)),(6,.int .u64 (c:Int)),(9,.int .i64 (n:Int)),(10,.int .i64 (i:Int))]∧H1=H.set b (.box 210 (U .u32 (mid zs o ws)))∧k=n-i
theorem azY(xs:List Nat)(tl:Tail)(hx:Limbs xs)(_:xs.length≤1000000)(b o n cp s:Nat)(zs:List Nat)(hz:Limbs zs)(hn:o+n≤zs.length)(hn2:n≤1000000)(hs:s<32)(H:Heap)(hb:H.objs b=some (.box 210 (U .u32 zs))):ACall prog 242 [.mslice (some ⟨b,o,none⟩) n cp,.slice 1 (U .u32 xs) tl,.int .i64 (s:Int)] H (λ_ H'=>∃ws:List Nat,ws.length=n∧Limbs ws∧val ws=val xs*2^s%4294967296^n∧H'=H.set b (.box 210 (U .u32 (mid zs o ws)))):=by
 have h2s:2^s≤2^31:=bS aC aA;have h2p:0<2^s:=cJ aC;refine ACall.of_body func242 rfl ntmps242 results242 rfl ?_;iterate 9 refine AM ?_
 iterate 4 refine AX ?_
 refine AWP.loopW (bjT xs tl b o n cp s zs H) (n) ⟨0,0,(zs.drop o).take n,Nat.zero_le _,by simp;omega,(hz.drop _).take _,by omega,by simp[val],rfl,(Heap.set_self (by rw[bdX hn];exact hb)).symm,rfl⟩ sX (hRa _) ?_;rintro _ _ _ ⟨i,c,ws,hi,hw,hwl,hc,hv,rfl,rfl,hk⟩;iterate 6 refine AX ?_
 refine AWP.cx rfl (λhc11=>?_) (λhc11=>?_)
 ·have hg:=Limbs.getD hx i;obtain⟨hv2,hc2,hc3⟩:=bfI (by omega:i<ws.length) aA hg hc hv;have hml:=ajI (o:=o) hw hn;have hxs2:xs.getD i 0*2^s≤4294967295*2^s:=bG _ aA;iterate 10 refine AX ?_
  refine AWP.seqToL [(6,.int .u64 ((c+xs.getD i 0*2^s:Nat):Int))] [0,1,2,9,10,7] ?_ ?_
  ·iterate 8 refine AX ?_
   refine AWP.cx rfl (λhc16=>?_) (λhc16=>?_)
   ·iterate 4 refine AX ?_
    refine .p rfl (yL (i) U159 Z210 (tm rfl) (tm rfl) aA aA) ?_;iterate 3 refine AX ?_
    refine .p rfl (adC (tm rfl) (tm rfl) aA aA) (.p rfl (ahL (tm rfl) (tm rfl) aA aA) ?_);iterate 2 refine AX ?_
    exact⟨rfl,(zU rfl (by(rw[blR hc])) sX),rfl⟩
   refine AX ?_;exact⟨rfl,(zU rfl (by(rw[aiJ aA,cU];rfl)) sX),rfl⟩
  refine AWP.sub [(6,_),(0,_),(1,_),(2,_),(9,_),(10,_),(7,_)] sX ?_;iterate 6 refine AX ?_
  refine .p rfl (ahM (i) U159 Z210 (tm rfl) (tm rfl) aA aA) (.e0 (qS Z210 (tm rfl) (tm rfl) (oS _ _ _) aA) ?_);try first|rw[sS]|rw[sU aB]
  iterate 10 refine AM ?_
  iterate 4 refine AX ?_
  refine Round.mk (J:=bjT xs tl b o n cp s zs H) ⟨i+1,_,_,by omega,by simpa using hw,Limbs.set hwl aA,hc2,hv2,rfl,by rw[bmH aA aA];rfl,rfl⟩ sX (hRa _) aA
 iterate 4 refine AX ?_
 refine Ret.go' .nil _ (hRa _) ?_;have hin:i=n:=by omega
 subst hin;refine⟨ws,hw,hwl,?_,rfl⟩;obtain⟨q,hq⟩:=buN xs i;rw[hq,cC,bT,dE];exact bpC hwl hw hv
def bjS(b o n cp d:Nat)(zs:List Nat)(H:Heap):Nat→Env→Heap→Prop:=λk env H1=>∃(i r:Nat)(ws:List Nat),i≤n∧ws.length=n∧Limbs ws∧r<d∧(∀j,j<n-i→ws.getD j 0=zs.getD (o+j) 0)∧val (ws.drop (n-i))*d+r=val (((zs.drop o).take n).drop (n-i))∧env=[(0,.mslice (some ⟨b,o,none⟩) n cp),(1,.int .u32 (d:Int)),(5,.int .u64 (r:Int)),(10,.int .i64 (n:Int)),(11,.int .i64 (i:Int))]∧H1=H.set b (.box 210 (U .u32 (mid zs o ws)))∧k=n-i
theorem azX(b o n cp d:Nat)(hd:0<d)(hd2:d<4294967296)(zs:List Nat)(hz:Limbs zs)(hn:o+n≤zs.length)(hn2:n≤1000000)(H:Heap)(hb:H.objs b=some (.box 210 (U .u32 zs))):ACall prog 201 [.mslice (some ⟨b,o,none⟩) n cp,.int .u32 (d:Int)] H (λy H'=>y= .int .u32 ((val ((zs.drop o).take n)%d:Nat):Int)∧∃ws:List Nat,ws.length=n∧Limbs ws∧val ws=val ((zs.drop o).take n)/d∧H'=H.set b (.box 210 (U .u32 (mid zs o ws)))):=by
 refine .of_body func201 rfl ntmps201 results201 rfl ?_;iterate 15 refine AM ?_
 iterate 4 refine AX ?_
 refine .loopW (bjS b o n cp d zs H) (n) ⟨0,0,(zs.drop o).take n,Nat.zero_le _,by simp;omega,(hz.drop _).take _,by omega,λj hj=>atA hj,by simp[val],rfl,(Heap.set_self (by rw[bdX hn];exact hb)).symm,rfl⟩ sX (hRa _) ?_;rintro _ _ _ ⟨i,r,ws,hi,hw,hwl,hr,hgs,hv,rfl,rfl,hk⟩;iterate 6 refine AX ?_
 refine .cx rfl (λhc12=>?_) (λhc12=>?_)
 ·have hg:=hgs (n-1-i) aA;have hx:=Limbs.getD hz (o+(n-1-i));have hml:=ajI (o:=o) hw hn;have hsh:r*2^32<18446744073709551616:=by rw[show(2:Nat)^32=4294967296 by decide];omega
  have hgm:=Limbs.getD (akJ (o:=o) hz hwl) (o+(n-1-i));obtain⟨hf1,hf2⟩:=arW hr hx hd2;have hq:(r*4294967296+zs.getD (o+(n-1-i)) 0)/d%2^IntKind.u32.bits=(r*4294967296+zs.getD (o+(n-1-i)) 0)/d:=bN hf1;have hm2:=bX (r*4294967296+zs.getD (o+(n-1-i)) 0) hd;iterate 20 refine AX ?_
  refine .seqToL [(8,.int .u64 ((r*4294967296+zs.getD (o+(n-1-i)) 0:Nat):Int))] [0,1,5,10,11,7] ?_ ?_
  ·iterate 2 refine AX ?_
   refine .p rfl (adC (tm rfl) (yT 32) aA (by exact hsh)) ?_;iterate 2 refine AX ?_
   refine .p rfl (ahM (n-1-i) U159 Z210 (tm rfl) (tm rfl) aA aA) (.e rfl (aaP G210 (tm rfl) (oS _ _ _) aA) ?_);refine AX ?_;refine .p rfl (ahL (tm rfl) (tm rfl) (hsh) aA) ?_;iterate 2 refine AX ?_
   exact⟨rfl,(zU rfl (by rw[bwA aA aA,hg,←blS (k:=32) (Nat.lt_of_lt_of_eq hx aC)]) sX),rfl⟩
  refine .sub [(8,_),(0,_),(1,_),(5,_),(10,_),(11,_),(7,_)] sX ?_;refine .draw [(0,true),(1,true),(2,true),(3,true),(4,true),(5,true),(6,true),(7,true),(8,true),(9,true),(10,true),(11,true),(12,false),(13,true)] rfl aE ?_;iterate 5 refine AX ?_
  refine .p rfl rfl (asG (tm rfl) (tm rfl) aA aA) ?_;iterate 4 refine AX ?_
  refine .p rfl rfl (aeK (tm rfl) (tm rfl) aA) (.p rfl rfl (ahM (n-1-i) U159 Z210 (tm rfl) (tm rfl) aA aA) (.s0 rfl (qS Z210 (tm rfl) (tm rfl) (oS _ _ _) aA) ?_));rintro _ _ ⟨rfl,hH⟩;obtain rfl:=hH.symm;try first|rw[sS]|rw[sU aB]
  iterate 9 refine AX ?_
  rw[hq];refine Round.mk ⟨i+1,_,_,by omega,by simpa using hw,Limbs.set hwl hf1,hm2,λj hj=>by rw[getD_set_ne aA];exact hgs j aA,azV hd hw aA hn hg hv,rfl,by rw[bmH aA aA],rfl⟩ sX (hRa _) aA
 iterate 14 refine AX ?_
 have hin:i=n:=by omega
 subst hin;rw[Nat.sub_self,dY,dY]at hv;rw[←hv];refine⟨?_,ws,hw,hwl,?_,rfl⟩
 ·simp only[yY];congr 1;rw[bO,Nat.mul_add_mod,bN hr,bN];simp only[IntKind.bits];omega
 rw[bO,Nat.mul_add_div hd,cY hr];rfl
end
section
open Go Go.RowKit
set_option maxRecDepth 100000
theorem bxO{s:Nat}(hv:0<v)(h:v*2^s<BIG):s<8192∧aqQ v+s≤8192∧v<BIG:=by
 have h1:2^s≤v*2^s:=Nat.le_mul_of_pos_left _ hv;have h5:v≤v*2^s:=eO _ (cJ aC);have h6:v<BIG:=bI h5 h;obtain⟨k,hk,hB⟩:∃k,k=8192∧BIG=2^k:=⟨32*256,rfl,boM _ rfl⟩;rw[hB]at h;have h2:s<k:=(Nat.pow_lt_pow_iff_right (a:=2) aC).1 (bI h1 h);have h3:v<2^(k-s):=by
  rw[show k=(k-s)+s by omega,dN]at h;exact Nat.lt_of_mul_lt_mul_right h
 have h4:=ajO.2 h3;exact⟨by omega,by omega,h6⟩
theorem akL{s:Nat}(h:v*2^s<BIG):v<BIG:=bI (eO _ (cJ aC)) h
theorem akG(s:Nat):4294967296^(s/32)*2^(s%32)=2^s:=by
 rw[show(4294967296:Nat)=2^32 by decide,←eX,←dN];congr 1;omega
theorem boX{m:Nat}(h:o+ws.length=m):val (mid (List.replicate m 0) (0+o) ws)=4294967296^o*val ws:=by
 unfold mid;rw[cE,List.take_replicate,List.drop_replicate,bF,aaI,aiW,aaI,aiW,bA,cQ aA,dO,cM,cE]
theorem buZ{s:Nat}(hv:v<4294967296^n)(hw:val ws=v*2^(s%32)%4294967296^(n+1)):4294967296^(s/32)*val ws=v*2^s:=by
 have h1:2^(s%32)≤2^31:=bS aC aA;have h2:v*2^(s%32)<4294967296^n*4294967296:=Nat.mul_lt_mul_of_lt_of_le hv aA aC;rw[hw,bN (by rw[bW];exact h2),Nat.mul_left_comm,akG]
theorem ayX(xs:List Nat)(tl:Tail)(hx:Limbs xs)(hl:xs.length≤1000000)(s:Nat)(hs:val xs*2^s<BIG)(hs2:s<1000000000):Fn 168 [.slice 1 (U .u32 xs) tl,.int .i64 (s:Int)] (.tuple [qE (val xs*2^s),.int .i64 0]):=by
 intro H;have hB:=akL hs;have h256:=yM hB;have hr:=abD xs;have hrl:=abL hx;refine .of_body func168 rfl ntmps168 results168 rfl ?_;iterate 15 refine AM ?_
 refine .cx rfl (λhc7=>?_) (λhc7=>?_)
 ·omega
 iterate 3 refine AX ?_
 refine .e rfl (yP U314 Z159 V159 rfl (tm rfl) (.inl rfl) ⟨rfl,rfl⟩) (.cl rfl C193 (evs1 rfl) (apY _ _ _ aB aB _) ?_);iterate 3 refine AX ?_
 refine .cx rfl (λhc10=>?_) (λhc10=>?_)
 ·omega
 iterate 3 refine AX ?_
 refine .cl rfl C240 (evs1 rfl) (acX _ _ aB aB _) ?_;iterate 4 refine AM ?_
 refine .cx rfl (λhc14=>?_) (λhc14=>?_)
 ·iterate 10 refine AM ?_
  refine⟨?_,rfl⟩;rw[aaO aA,cU];rfl
 have hpos:0<val xs:=eV (λh=>by have:=aaQ h;omega);obtain⟨hs3,hs4,_⟩:=bxO hpos hs;refine .seqTo 18 (.bool (false)) [0,1,4,5] ?_ ?_
 ·iterate 4 refine AM ?_
  refine zC (t:=21) rfl (λhg21=>?_) (λhg21=>?_)
  ·iterate 8 refine AX ?_
   exact⟨rfl,zO rfl (by(simp at hg21;omega)) sX,rfl⟩
  refine AX ?_;refine .gs rfl rfl rfl aB (zD call241 (evs1 rfl) (boK _ _ aB aB _)) ?_;rintro _ _ ⟨rfl,hH⟩;obtain rfl:=hH.symm;iterate 6 refine AM ?_
  exact⟨rfl,zO rfl (by(simp;omega)) sX,rfl⟩
 refine .sub [(18,_),(0,_),(1,_),(4,_),(5,_)] sX ?_;refine .cond_false (tm rfl) aD ?_;iterate 6 refine AX ?_
 refine .cl rfl C194 (evs1 rfl) (aaY _ _ aB aB _) ?_;iterate 11 refine AM ?_
 refine .s rfl (qJ (s/32+(zK (val xs)).length+1) U159 typeInfo210 Z210 V210 (tm rfl) (tm rfl) aA aA aC aA) ?_;rintro _ _ ⟨b36,rfl,hb36,hH⟩;obtain rfl:=hH.symm;iterate 8 refine AM ?_
 refine .p rfl (auM (_) U159 Z210 (tm rfl) (tm rfl) rfl aA aA aA) ?_;iterate 2 refine AX ?_
 refine .p rfl (ajE (tm rfl) (yT 32) aA) ?_;refine .s rfl (zD call242 (evs3 rfl rfl rfl) (azY (zK (val xs)) .shared (zL _) aA b36 (0+s/32) _ _ (s%32) (List.replicate (s/32+(zK (val xs)).length+1) 0) (Limbs.rep aA) aG aA (bX _ aC) _ (oS _ _ _))) ?_;rintro _ _ ⟨ws,hw,hwl,hv,hH⟩;obtain rfl:=hH.symm;rw[sS];iterate 3 refine AX ?_
 rw[show s/32+(zK (val xs)).length+1-s/32=(zK (val xs)).length+1 by omega]at hw hv;have hmL:=akJ (o:=0+s/32) (Limbs.rep (n:=s/32+(zK (val xs)).length+1) (x:=0) aA) hwl;have hml:(mid (List.replicate (s/32+(zK (val xs)).length+1) 0) (0+s/32) ws).length≤1000000:=by rw[ajI hw aG];simp;omega
 refine .frzU (t:=6) rfl hb36 (by rw[ajI hw aG];simp) (bB _) (by simp only[zN];omega) ?_;rw[aZ (by rw[ajI hw aG];simp)];iterate 2 refine AX ?_
 refine .cl rfl C194 (evs1 rfl) (aaY _ _ aB aB _) ?_;iterate 6 refine AM ?_
 refine⟨?_,rfl⟩;rw[zR]at hv;rw[boX aA,buZ (qT.1 (bB _)) hv];rfl
end
theorem bbR{P:Program}{n:Fr}{cd:Code}{Q:Exit→Env→Heap→Prop}{env:Env}{H:Heap}{b:Bool}{t:Nat}(_h:env.get? t=some (.bool b))(ht:b=true→AWP P n cd Q env H)(hf:b=false→AWP P n cd Q env H):AWP P n cd Q env H:=by
 grind
theorem brV(x r:Nat):x&&&(2^r-1)=x%2^r:=fD x r
def bfG(r:Nat):List Nat→List Nat
 | []=>[]
 |x::xs=>(x+xs.getD 0 0*4294967296)/2^r%4294967296::bfG r xs
theorem bcL(r:Nat):∀xs:List Nat,(bfG r xs).length=xs.length
 | []=>rfl
 |x::xs=>by rw[bfG,aX,aX,bcL r xs]
theorem arU(r:Nat):∀xs:List Nat,Limbs (bfG r xs)
 | []=>Limbs.nil
 |x::xs=>Limbs.mk (bX _ aC) (arU r xs)
theorem bpJ(r:Nat)(h:i<xs.length):(bfG r xs).getD i 0=(xs.getD i 0+xs.getD (i+1) 0*4294967296)/2^r%4294967296:=by
 induction xs generalizing i with
 |nil=>simp at h
 |cons x xs ih=>
  rw[bfG];cases i with
  |zero=>rw[eJ,eJ,cL]
  |succ i=>rw[cL,cL,cL];exact ih (by simpa using h)
theorem bpI{x y W P D:Nat}(hr:2^r=P)(hB:4294967296=P*D)(hx:x<4294967296):
  (x+4294967296*(y+4294967296*W))/P=(x+y*4294967296)/P%4294967296+4294967296*((y+4294967296*W)/P):=by
 have hP:0<P:=by rw[←hr];exact cJ aC
 have hD:0<D:=by
  rcases bE D with h|h
  ·grind
  exact h
 have hxD:x/P<D:=by rw[eM hP,bO,←hB];exact hx
 have e1:∀Z,(x+4294967296*Z)/P=x/P+D*Z:=λZ=>by rw[hB,bT,fB _ _ hP]
 rw[e1,bO y,e1];generalize hV:y+4294967296*W=V;have ht:V%P=y%P:=by rw[←hV,hB,bT,dE]
 have hm:=bX y hP;have e2:D*V=D*(y%P)+4294967296*(V/P):=by
  rw[←ht]
  conv=>lhs;rw[←dJ V P]
  rw[cB,hB,←bT,bO D P];omega
 have e3:D*y=D*(y%P)+4294967296*(y/P):=by
  conv=>lhs;rw[←dJ y P]
  rw[cB,hB,←bT,bO D P];omega
 have hlt:x/P+D*(y%P)<4294967296:=by
  have h1:D*(y%P+1)≤D*P:=dV _ hm;rw[cB,bO D P,←hB]at h1;omega
 rw[e2,e3,←eF,←eF,dE,bN hlt]
theorem bcK{r:Nat}(hr:r≤32):∀{xs:List Nat},Limbs xs→val (bfG r xs)=val xs/2^r
 | [],_=>by simp[bfG,val]
 |x::xs,h=>by
  obtain⟨hx,hxs⟩:=h.cons;rw[bfG,val,val,bcK hr hxs];have hB:4294967296=2^r*2^(32-r):=by rw[←dN,show r+(32-r)=32 by omega]
  cases xs with
  |nil=>
   simp only[val,List.getD_nil,cU,dO,cM,Nat.zero_div];rw[bN];exact bI (eY _ _) hx
  |cons y ys=>
   rw[eJ,val];exact(bpI rfl hB hx).symm
theorem buY(hl:A.length=Z.length)(hi:i<Z.length):(A.take i++Z.drop i).set i (A.getD i 0)=A.take (i+1)++Z.drop (i+1):=by
 have hA:i<A.length:=by omega
 rw[List.set_append_right _ _ (by rw[aU];omega),aU,show i-min i A.length=0 by omega,cK hi,List.set_cons_zero,←bP hA,bF,aS,aV hA];rfl
theorem bjO{j:Nat}(hl:A.length=Z.length)(hi:i≤Z.length)(hj:i≤j):(A.take i++Z.drop i).getD j 0=Z.getD j 0:=by
 grind
theorem azT(hl:A.length=Z.length)(hi:i≤Z.length):(A.take i++Z.drop i).length=Z.length:=by
 grind
theorem bhQ{ys:List Nat}{m:Nat}(h:ys.length=m):(List.replicate m 0).take 0++ys.take m++(List.replicate m 0).drop (0+min ys.length m)=ys:=by
 grind
theorem bcI(h:k≤xs.length):val xs=val (xs.take k)+4294967296^k*val (xs.drop k):=by
 have:=aaI (xs.take k) (xs.drop k);rw[cO,aU,cQ h]at this;exact this
theorem bjG(hx:Limbs xs)(h:k≤xs.length):val (xs.take k)<4294967296^k:=by
 have:=ahB (hx.take k)
 rwa[aU,cQ h]at this
theorem beK(hx:Limbs xs)(h:k≤xs.length):val (xs.drop k)=val xs/4294967296^k:=by
 have h1:=bcI h;have h2:=bjG hx h;rw[h1,fB _ _ (cJ aC),cY h2,cE]
theorem buX{s:Nat}(h:s/32≤(zK v).length):val (bfG (s%32) ((zK v).drop (s/32)))=v/2^s:=by
 rw[bcK aA ((zL v).drop _),beK (zL v) h,zR,eT,akG]
theorem bpH{s:Nat}(h:(zK v).length≤s/32):v<2^s:=by
 have h1:=qT.1 h;have h2:4294967296^(s/32)≤2^s:=by
  rw[←akG];exact eO _ (cJ aC)
 omega
theorem bdY{s:Nat}(h:s/32<(zK v).length):v%2^s=0↔qH ((zK v).take (s/32))=0∧(zK v).getD (s/32) 0%2^(s%32)=0:=by
 have h1:=bcI (eS h);have h2:=bjG (zL v) (eS h);rw[zR]at h1;have e:v%2^s=val ((zK v).take (s/32))+4294967296^(s/32)*((zK v).getD (s/32) 0%2^(s%32)):=by
  rw[←akG,Nat.mod_mul];have hd:(zK v).drop (s/32)=(zK v).getD (s/32) 0::(zK v).drop (s/32+1):=by
   rw[cK h,aS,aV h];rfl
  have h3:v/4294967296^(s/32)=(zK v).getD (s/32) 0+4294967296*val ((zK v).drop (s/32+1)):=by
   have:=beK (zL v) (eS h);rw[hd,zR,val]at this;exact this.symm
  have h4:v%4294967296^(s/32)=val ((zK v).take (s/32)):=by
   conv=>lhs;rw[h1]
   rw[dE,bN h2]
  rw[h3,h4];congr 2;rw[show(4294967296:Nat)=2^(s%32)*2^(32-s%32) by rw[←dN,show s%32+(32-s%32)=32 by omega],bT,dE]
 rw[e];have hp:0<4294967296^(s/32):=cJ aC;constructor
 ·intro h;refine⟨aaQ aA,?_⟩;have h0:4294967296^(s/32)*((zK v).getD (s/32) 0%2^(s%32))=0:=by omega
  rcases Nat.mul_eq_zero.1 h0 with h5|h5
  ·omega
  exact h5
 rintro⟨h5,h6⟩;rw[aaO h5,h6];rfl
section
open Go Go.RowKit
set_option maxRecDepth 100000
theorem bwD{s:Nat}(h:s/32<(zK v).length)(hg:decide (((0:Nat):Int)<(qH ((zK v).take (s/32)):Int))=false):decide (¬(((((zK v).drop (s/32)).getD 0 0&&&(1*2^(s%32)-1):Nat):Int)=((0:Nat):Int)))=decide (v%2^s≠0):=by
 have e:((zK v).drop (s/32)).getD 0 0=(zK v).getD (s/32) 0:=by
  rw[aS,aS,cV];rfl
 have hg2:qH ((zK v).take (s/32))=0:=by simpa using hg
 have hl:=bdY h;rw[aO,e,cS,brV];constructor
 ·intro h1 h2;exact h1 (by rw[(hl.1 h2).2])
 intro h1 h2;exact h1 (hl.2 ⟨hg2,by omega⟩)
theorem bwE:decide (((0:Nat):Int)<((zK v).length:Int))=decide (v≠0):=by
 rw[aO];rcases bE v with h|h
 ·subst h;rw[adG];simp
 rw[abQ h];simp;omega
def bxN(v s:Nat)(b:Nat)(H:Heap):Nat→Env→Heap→Prop:=λk env H1=>∃i:Nat,i≤((zK v).length-s/32)∧env=[(8,.bool (decide (v%2^s≠0))),(9,.mslice (some ⟨b,0,none⟩) ((zK v).length-s/32) ((zK v).length-s/32)),(10,.int .i64 ((s%32:Nat):Int)),(66,.int .i64 ((((zK v).length-s/32):Nat):Int)),(67,.int .i64 (i:Int))]∧H1=H.set b (.box 210 (U .u32 ((bfG (s%32) ((zK v).drop (s/32))).take i++((zK v).drop (s/32)).drop i)))∧k=((zK v).length-s/32)-i
theorem boG(xs:List Nat)(tl:Tail)(hx:Limbs xs)(hl:xs.length≤1000000)(s:Nat)(hs:val xs<BIG)(hs2:s<1000000000):Fn 169 [.slice 1 (U .u32 xs) tl,.int .i64 (s:Int)] (.tuple [qE (val xs/2^s),.bool (decide (val xs%2^s≠0)),.int .i64 0]):=by
 intro H;have h256:=yM hs;have hr:=abD xs;have hrl:=abL hx;refine .of_body func169 rfl ntmps169 results169 rfl ?_;iterate 16 refine AM ?_
 refine .cx rfl (λhc13=>?_) (λhc13=>?_)
 ·omega
 iterate 3 refine AX ?_
 refine .e rfl (yP U314 Z159 V159 rfl (tm rfl) (.inl rfl) ⟨rfl,rfl⟩) (.cl rfl C193 (evs1 rfl) (apY _ _ _ aB aB _) ?_);iterate 3 refine AX ?_
 refine .cx rfl (λhc16=>?_) (λhc16=>?_)
 ·omega
 iterate 6 refine AX ?_
 refine .cl rfl C194 (evs1 rfl) (aaY _ _ aB aB _) ?_;iterate 3 refine AX ?_
 refine .seqToL [(7,.int .i64 ((min (s/32) (zK (val xs)).length:Nat):Int))] [0,1,4,5,6] ?_ ?_
 ·iterate 8 refine AM ?_
  exact⟨rfl,(zU rfl (by congr 1;simp only[asW];first|omega|(split<;>omega)) sX),rfl⟩
 refine .sub [(7,_),(0,_),(1,_),(4,_),(5,_),(6,_)] sX ?_;refine AX ?_;generalize hK:min (s/32) (zK (val xs)).length=K;generalize val xs=v at *;have htk:=(zL v).take K;have htl:((zK v).take K).length≤1000000:=by simp;omega
 have hp2:1≤2^(s%32):=cJ aC;have hp3:2^(s%32)≤2147483648:=bH (bS aC (by omega:s%32≤31)) aC;iterate 3 refine AX ?_
 refine .p rfl (aeC (_) U159 Z210 (tm rfl) (tm rfl) rfl aA) (.cl rfl C240 (evs1 rfl) (acX _ _ aB aB _) ?_);iterate 10 refine AM ?_
 refine .s rfl (qJ ((zK v).length-K) U159 typeInfo210 Z210 V210 (tm rfl) (tm rfl) aA aA aC aA) ?_;rintro _ _ ⟨b36,rfl,hb36,hH⟩;obtain rfl:=hH.symm;iterate 8 refine AX ?_
 refine .p rfl (auO (_) U159 Z210 (tm rfl) (tm rfl) rfl aA) (.e rfl (alK U159 Z210 (tm rfl) (tm rfl) (oS _ _ _) (by(simp;done))) ?_);try first|rw[sS]|rw[sU aB]
 iterate 3 refine AX ?_
 rw[bhQ aF];iterate 2 refine AX ?_
 refine .p rfl (ajE (tm rfl) (yT 32) aA) ?_;iterate 4 refine AX ?_
 refine .seqTo 52 (.bool (decide ((zK v).length≤s/32))) [4,5,6,8,9,10] ?_ ?_
 ·iterate 5 refine AM ?_
  refine zC (t:=47) rfl (λhg47=>?_) (λhg47=>?_)
  ·iterate 6 refine AX ?_
   exact⟨rfl,zO rfl (by(simp at hg47;simp;omega)) sX,rfl⟩
  iterate 6 refine AM ?_
  exact⟨rfl,zO rfl (by(simp at hg47;simp;omega)) sX,rfl⟩
 refine .sub [(52,_),(4,_),(5,_),(6,_),(8,_),(9,_),(10,_)] sX ?_;refine .cx rfl (λhc52=>?_) (λhc52=>?_)
 ·refine AX ?_;refine .frzU (t:=9) rfl hb36 (by simp<;>omega) (bB _) (by simp only[zN];omega) ?_;iterate 10 refine AM ?_
  refine⟨?_,rfl⟩;have hle:(zK v).length≤s/32:=by omega
  have hvs:=bpH hle;rw[aZ aA,aqC,cY hvs,bN hvs,bwE];rfl
 have hK2:K=s/32:=by omega
 subst hK2;have hlt:s/32<(zK v).length:=by omega
 have hli:=bdY hlt;have hx00:=Limbs.getD ((zL v).drop (s/32)) 0;have hAl:(bfG (s%32) ((zK v).drop (s/32))).length=((zK v).drop (s/32)).length:=bcL _ _;have hZl:((zK v).drop (s/32)).length=((zK v).length-s/32):=bC;iterate 2 refine AX ?_
 refine .seqTo 8 (.bool (decide (v%2^s≠0))) [4,5,6,9,10] ?_ ?_
 ·refine bbR (t:=8) rfl (λhg8=>?_) (λhg8=>?_)
  ·refine .draw [(0,true),(1,true),(2,true),(3,true),(4,true),(5,true),(6,true),(7,true),(8,true),(9,true),(10,true),(11,true)] rfl aE ?_;iterate 13 refine AX ?_
   exact⟨rfl,zO rfl (by(simp at hg8;simp;omega)) sX,rfl⟩
  refine .draw [(0,true),(1,true),(2,true),(3,true),(5,true),(6,true),(7,true),(4,false),(8,true),(9,true),(10,true),(11,true)] rfl aE ?_;iterate 3 refine AX ?_
  refine .gp rfl rfl rfl rfl aB (yR (0) U159 Z210 (tm rfl) (yT 0) aA aA) ?_;refine AX ?_;refine .gp rfl rfl rfl rfl aB (ajD (yT 1) (tm rfl) aA aA) (.gp rfl rfl rfl rfl aB (baS (tm rfl) (yT 1) aA aA) (.gs rfl rfl rfl rfl aB (aaP G210 (tm rfl) (oS _ _ _) aA) ?_));rintro _ _ ⟨rfl,hH⟩;obtain rfl:=hH.symm;refine .gp rfl rfl rfl rfl aB (aiF (tm rfl) (tm rfl) aB aA) ?_;iterate 4 refine AM ?_
  exact⟨rfl,zO rfl (bwD hlt hg8) sX,rfl⟩
 refine .sub [(8,_),(4,_),(5,_),(6,_),(9,_),(10,_)] sX ?_;iterate 9 refine AM ?_
 refine .loopW (bxN v s b36 H) (((zK v).length-s/32)) ⟨0,Nat.zero_le _,rfl,rfl,rfl⟩ sX (hRa _) ?_;rintro _ _ _ ⟨i,hi,rfl,rfl,hk⟩;iterate 6 refine AX ?_
 refine .cx rfl (λhc68=>?_) (λhc68=>?_)
 ·have hi2:i<((zK v).length-s/32):=by omega
  have hrl2:=azT hAl (by omega:i≤((zK v).drop (s/32)).length);have hg0:=bjO hAl (by omega:i≤((zK v).drop (s/32)).length) (bB i);have hg1:=bjO hAl (by omega:i≤((zK v).drop (s/32)).length) (by omega:i≤i+1);have hx0:=Limbs.getD ((zL v).drop (s/32)) i;have hx1:=Limbs.getD ((zL v).drop (s/32)) (i+1);iterate 14 refine AX ?_
  refine .p rfl (yR (i) U159 Z210 (tm rfl) (tm rfl) aA aA) (.e rfl (aaP G210 (tm rfl) (oS _ _ _) aA) ?_);iterate 4 refine AX ?_
  refine .seqToL [(12,.int .u64 ((((zK v).drop (s/32)).getD i 0+((zK v).drop (s/32)).getD (i+1) 0*4294967296:Nat):Int))] [8,9,10,66,67,11] ?_ ?_
  ·iterate 9 refine AM ?_
   refine .cx rfl (λhc79=>?_) (λhc79=>?_)
   ·iterate 5 refine AM ?_
    refine .p rfl (yR (i+1) U159 Z210 (tm rfl) (tm rfl) aA aA) (.e rfl (aaP G210 (tm rfl) (oS _ _ _) aA) ?_);refine AX ?_;refine .p rfl (adC (tm rfl) (yT 32) aA (by rw[show(2:Nat)^32=4294967296 by decide];omega)) (.p rfl (ahL (tm rfl) (tm rfl) aA aA) ?_);iterate 2 refine AX ?_
    exact⟨rfl,(zU rfl (by(rw[hg0,hg1,blR (k:=32) (Nat.lt_of_lt_of_eq hx0 aC)]<;>rfl)) sX),rfl⟩
   refine AX ?_;exact⟨rfl,(zU rfl (by(rw[hg0,aiJ (i:=i+1) aA,cU]<;>rfl)) sX),rfl⟩
  refine .sub [(12,_),(8,_),(9,_),(10,_),(66,_),(67,_),(11,_)] sX ?_;iterate 5 refine AX ?_
  refine .p rfl (adB (tm rfl) (tm rfl) aA) ?_;refine AX ?_;refine .p rfl (yR (i) U159 Z210 (tm rfl) (tm rfl) aA aA) (.e0 (qS Z210 (tm rfl) (tm rfl) (oS _ _ _) aA) ?_);try first|rw[sS]|rw[sU aB]
  iterate 8 refine AM ?_
  refine Round.mk ⟨i+1,by omega,rfl,by rw[←buY hAl aA,bpJ _ aA];rfl,rfl⟩ sX (hRa _) aA
 iterate 6 refine AX ?_
 have hi3:i=((zK v).length-s/32):=by omega
 refine .frzU (t:=9) rfl hb36 (by rw[azT hAl aA];omega) (bB _) (by simp only[zN];omega) ?_;rw[aZ (l:=_++_) (by rw[azT hAl aA];omega),aZ (l:=bfG (s%32) ((zK v).drop (s/32))) aA,dQ (l:=((zK v).drop (s/32))) aA,bJ];have hAL:=arU (s%32) ((zK v).drop (s/32));iterate 2 refine AX ?_
 refine .cl rfl C194 (evs1 rfl) (aaY _ _ aB aA _) ?_;iterate 8 refine AM ?_
 refine⟨?_,rfl⟩;rw[buX aA];rfl
end
section
open Go Go.RowKit
set_option maxRecDepth 100000
theorem aiU(h:n<BIG):(zK n).length≤1000000:=bH (yM h) aC
theorem addB(a b:Nat)(h:a+b<BIG):Fn 107 [qE a,qE b] (.tuple [qE (a+b),.int .i64 0]):=by
 intro H;have:=azH (zK a) .shared (zL a) (aiU aA) (zK b) .shared (zL b) (aiU aA) H
 rwa[zR,zR,btZ,asB h]at this
theorem mulB(a b:Nat)(ha:a<BIG)(hb:b<BIG)(h:a*b<BIG):Fn 106 [qE a,qE b] (.tuple [qE (a*b),.int .i64 0]):=by
 intro H;have:=boJ (zK a) .shared (zL a) (aiU ha) (zK b) .shared (zL b) (aiU hb) H
 rwa[zR,zR,bzG,asB ⟨ha,hb,h⟩]at this
theorem shlB(a s:Nat)(h:a*2^s<BIG)(hs:s<1000000000):Fn 168 [qE a,.int .i64 (s:Int)] (.tuple [qE (a*2^s),.int .i64 0]):=by
 intro H;have:=ayX (zK a) .shared (zL a) (aiU (akL h)) s (by rwa[zR]) hs H
 rwa[zR]at this
theorem shrB(a s:Nat)(h:a<BIG)(hs:s<1000000000):Fn 169 [qE a,.int .i64 (s:Int)] (.tuple [qE (a/2^s),.bool (decide (a%2^s≠0)),.int .i64 0]):=by
 intro H;have:=boG (zK a) .shared (zL a) (aiU h) s (by rwa[zR]) hs H
 rwa[zR]at this
theorem cmpB(a b:Nat)(ha:a<BIG)(hb:b<BIG):Fn 189 [qE a,qE b] (.int .i64 (aqW a b)):=by
 intro H;have:=boL (zK a) .shared (zL a) (aiU ha) (zK b) .shared (zL b) (aiU hb) H
 rwa[zR,zR]at this
def byB(b n:Nat)(H:Heap):Nat→Env→Heap→Prop:=λk env H1=>∃i:Nat,i≤n∧env=[(0,.int .i64 (b:Int)),(6,qE (b^i)),(7,.int .i64 0),(30,.int .i64 (n:Int)),(31,.int .i64 (i:Int))]∧H=H1∧k=n-i
theorem ayY(b n:Nat)(hb:2≤b)(hb2:b≤1000000)(hn2:n<1000000000)(h:b^n<BIG):Fn 170 [.int .i64 (b:Int),.int .i64 (n:Int)] (.tuple [qE (b^n),.int .i64 0]):=by
 intro H;refine .of_body func170 rfl ntmps170 results170 rfl ?_;iterate 3 refine AM ?_
 iterate 4 refine AX ?_
 refine .seqTo 17 (.bool (false)) [0,1,4,5] ?_ ?_
 ·iterate 4 refine AX ?_
  refine zC (t:=10) rfl (λhg10=>?_) (λhg10=>?_)
  ·iterate 2 refine AX ?_
   refine .p rfl (yE (tm rfl) aB yA) ?_;iterate 5 refine AX ?_
   exact⟨rfl,zO rfl (by(simp at hg10;omega)) sX,rfl⟩
  iterate 4 refine AX ?_
  refine zC (t:=14) rfl (λhg14=>?_) (λhg14=>?_)
  ·iterate 4 refine AX ?_
   exact⟨rfl,zO rfl (by(simp at hg14;omega)) sX,rfl⟩
  iterate 4 refine AX ?_
  exact⟨rfl,zO rfl aD sX,rfl⟩
 refine .sub [(17,_),(0,_),(1,_),(4,_),(5,_)] sX ?_;refine .cond_false (tm rfl) aD ?_;iterate 4 refine AX ?_
 refine .e rfl (yP U159 Z210 V210 rfl (yT 1) (.inl rfl) ⟨rfl,rfl⟩) ?_;iterate 5 refine AX ?_
 refine .seqTo 19 (.bool (false)) [0,1,4,5,6] ?_ ?_
 ·iterate 4 refine AX ?_
  refine zC (t:=22) rfl (λhg22=>?_) (λhg22=>?_)
  ·iterate 5 refine AX ?_
   exact⟨rfl,zO rfl (by(simp at hg22;omega)) sX,rfl⟩
  iterate 5 refine AX ?_
  exact⟨rfl,zO rfl aD sX,rfl⟩
 refine .sub [(19,_),(0,_),(1,_),(4,_),(5,_),(6,_)] sX ?_;refine .cond_false (tm rfl) aD ?_;iterate 7 refine AX ?_
 refine .cx rfl (λhc26=>?_) (λhc26=>?_)
 ·omega
 iterate 4 refine AX ?_
 refine .weakv (qE (b^0)) (t:=6) rfl (.slice _ _ _) ?_;iterate 12 refine AX ?_
 refine .loopW (byB b n H) (n) ⟨0,Nat.zero_le _,rfl,rfl,rfl⟩ sX (hRa _) ?_;rintro _ _ _ ⟨i,hi,rfl,rfl,hk⟩;iterate 6 refine AX ?_
 refine .cx rfl (λhc32=>?_) (λhc32=>?_)
 ·have hle:b^(i+1)≤b^n:=bS aA aA;have hp:b^i*b<BIG:=bI hle h;have hp0:b^i≤b^n:=bS aA aA;have hbB:b<BIG:=bI hb2 (by unfold BIG;decide+kernel);have hiB:b^i<BIG:=by omega
  iterate 9 refine AX ?_
  refine .cl rfl C93 (evs1 rfl) (aeG _ aA _) (.cl rfl C106 (evs2 rfl rfl) (mulB _ _ aB aB aB _) ?_);iterate 13 refine AX ?_
  refine .cond_false (tm rfl) aD ?_;iterate 8 refine AX ?_
  refine Round.mk ⟨i+1,by omega,rfl,rfl,rfl⟩ sX (hRa _) aA
 iterate 14 refine AX ?_
 refine⟨?_,rfl⟩;rw[show i=n by omega];rfl
end
section
open Go Go.RowKit
set_option maxRecDepth 100000
theorem bmI(hn:ws.length=n)(ho:o≤zs.length):((mid zs o ws).drop o).take n=ws:=by
 unfold mid;have e:(zs.take o).length=o:=by rw[aU];omega
 rw[bF,List.drop_append_of_le_length aA,dQ aA,cP,dU aA,aZ aA]
theorem bhP(h:r≤xs.length):(List.replicate r 0).take 0++xs.take r++(List.replicate r 0).drop (0+min xs.length r)=xs.take r:=by
 rw[dQ aG];simp
theorem buC{a b:Nat}(h:aqW a b<0):a<b:=by
 unfold aqW at h;split at h
 ·assumption
 split at h<;>simp at h
theorem byV{a b:Nat}(h:¬aqW a b<0):b≤a:=by
 unfold aqW at h;split at h
 ·simp at h
 omega
theorem brY(xs:List Nat)(tl:Tail)(hx:Limbs xs)(hl:xs.length≤1000000)(H:Heap):ACall prog 171 [.slice 1 (U .u32 xs) tl] H (λy H'=>∃b:Nat,H.objs b=none∧y= .mslice (some ⟨b,0,none⟩) (zK (val xs)).length (zK (val xs)).length∧H'=H.set b (.box 210 (U .u32 (zK (val xs))))):=by
 have hr:=abD xs;have hrl:=abL hx;refine .of_body func171 rfl ntmps171 results171 rfl ?_;iterate 8 refine AX ?_
 refine .cl rfl C240 (evs1 rfl) (acX _ _ aB aB _) (.s rfl (qJ (_) U159 typeInfo210 Z210 V210 (tm rfl) (tm rfl) rfl rfl aC aA) ?_);rintro _ _ ⟨b6,rfl,hb6,hH⟩;obtain rfl:=hH.symm;iterate 7 refine AX ?_
 refine .e rfl (alK U159 Z210 (tm rfl) (tm rfl) (oS _ _ _) (by(simp;done))) ?_;try first|rw[sS]|rw[sU aB]
 iterate 10 refine AX ?_
 rw[bhP hr,acV hx,hrl];exact⟨b6,hb6,rfl,rfl⟩
theorem cutB(a:Nat)(h:(zK a).length≤1000000):Fn 194 [qE a] (qE a):=by
 intro H;have:=aaY (zK a) .shared (zL a) h H
 rwa[zR]at this
end
section
open Go Go.RowKit
set_option maxRecDepth 100000
def bcZ(b n c:Nat)(zs:List Nat)(H:Heap):Nat→Env→Heap→Prop:=λk env H1=>∃i:Nat,i≤n∧qH (zs.take i)=qH (zs.take n)∧env=[(0,.mslice (some ⟨b,0,none⟩) n c),(3,.int .i64 (i:Int))]∧H=H1∧k=i
theorem awY(b n c:Nat)(zs:List Nat)(_:Limbs zs)(hn:n≤zs.length)(hn2:n≤1000000)(_:n≤c)(H:Heap)(hb:H.objs b=some (.box 210 (U .u32 zs))):ACall prog 240 [.mslice (some ⟨b,0,none⟩) n c] H (λy H'=>y= .int .i64 (qH (zs.take n):Int)∧H'=H):=by
 refine .of_body func240 rfl ntmps240 results240 rfl ?_;iterate 14 refine AX ?_
 refine .loopW (bcZ b n c zs H) (n) ⟨n,bB _,rfl,rfl,rfl,rfl⟩ sX (hRa _) ?_;rintro _ _ _ ⟨i,hi,hr,rfl,rfl,hk⟩;refine AX ?_;refine .seqTo 15 (.bool (decide (0<(i:Int))&&decide (((zs.getD (i-1) 0:Nat):Int)=0))) [0,3] ?_ ?_
 ·iterate 4 refine AX ?_
  refine zC (t:=8) rfl (λhg8=>?_) (λhg8=>?_)
  ·have hh8:=hg8;try simp only[aW]at hh8
   iterate 3 refine AX ?_
   refine .gp rfl rfl rfl aB (yR (i-1) U159 Z210 (tm rfl) (tm rfl) aA aA) (.gs rfl rfl rfl aB (aaP G210 (tm rfl) aB aA) ?_);rintro _ _ ⟨rfl,hH⟩;obtain rfl:=hH.symm;iterate 3 refine AM ?_
   exact⟨rfl,zO rfl aI sX,rfl⟩
  have hh8:=hg8;try simp only[aT,cF]at hh8
  iterate 8 refine AX ?_
  exact⟨rfl,zO rfl aI sX,rfl⟩
 refine .sub [(15,_),(0,_),(3,_)] sX ?_;refine .cx rfl (λhc15=>?_) (λhc15=>?_)
 ·simp only[bD,aW]at hc15;iterate 10 refine AX ?_
  have hs:=acJ (xs:=zs) (k:=i-1) aA;rw[show i-1+1=i by omega,aK]at hs;refine Round.mk ⟨i-1,by omega,by rw[←hs,hr],rfl,rfl,rfl⟩ (zF rfl (zU rfl (by rw[show((i:Int)-1)=((i-1:Nat):Int) by omega]) zW)) (hRa _) aA
 simp only[cA,aT]at hc15;iterate 13 refine AX ?_
 refine⟨?_,rfl⟩;have hq:i=qH (zs.take n):=by
  rcases bE i with h0|h0
  ·subst h0;rw[←hr];rfl
  have hs:=acJ (xs:=zs) (k:=i-1) aA;rw[show i-1+1=i by omega,aJ,hr]at hs;exact hs.symm
 rw[←hq];rfl
theorem bhL(b n c:Nat)(zs:List Nat)(hz:Limbs zs)(hn:n≤zs.length)(hn2:n≤1000000)(hc:n≤c)(H:Heap)(hb:H.objs b=some (.box 210 (U .u32 zs))):ACall prog 194 [.mslice (some ⟨b,0,none⟩) n c] H (λy H'=>y= .mslice (some ⟨b,0,none⟩) (qH (zs.take n)) c∧H'=H):=by
 have hr:=abD (zs.take n);have hrt:(zs.take n).length=n:=by simp;omega
 refine .of_body func194 rfl ntmps194 results194 rfl ?_;iterate 9 refine AX ?_
 refine .cl rfl C240 (evs1 rfl) (awY _ _ _ zs hz hn hn2 hc _ hb) (.p rfl (auN (_) U159 Z210 (tm rfl) (tm rfl) rfl aA) ?_);iterate 5 refine AX ?_
 exact⟨rfl,rfl⟩
end
section
open Go
def dgt(n:Nat):UInt8:=UInt8.ofNat (48+n)
def biT:Nat→Nat→List UInt8→List UInt8
 |0,_,acc=>acc
 |f+1,n,acc=>if n<10 then dgt n::acc else biT f (n/10) (dgt (n%10)::acc)
def dec(n:Nat):List UInt8:=biT (n+1) n []
theorem akW:∀(f n:Nat)(acc:List UInt8),biT f n acc=biT f n []++acc
 |0,_,_=>rfl
 |f+1,n,acc=>by
  unfold biT;split
  ·rfl
  rw[akW f (n/10) (dgt (n%10)::acc),akW f (n/10) [dgt (n%10)],bF];rfl
theorem ayL:∀(f g n:Nat),n<f→n<g→biT f n []=biT g n []
 |0,_,n,h,_=>absurd h (Nat.not_lt_zero n)
 |_+1,0,n,_,h=>absurd h (Nat.not_lt_zero n)
 |f+1,g+1,n,h1,h2=>by
  unfold biT;split
  ·rfl
  rw[akW f,akW g,ayL f g (n/10) aA aA]
theorem ahY(h:n<10):dec n=[dgt n]:=by
 unfold dec biT;rw[aN h]
theorem akU(h:10≤n):dec n=dec (n/10)++[dgt (n%10)]:=by
 unfold dec;rw[show biT (n+1) n []=biT n (n/10) [dgt (n%10)] by rw[biT,aJ],akW,ayL n (n/10+1) (n/10) aA aA]
theorem bwS(n:Nat):Lib.decDigits n=dec n:=by
 induction n using Nat.strongRecOn with
 |ind n ih=>
  unfold Lib.decDigits;split
  ·rename_i h;rw[ahY h];rfl
  rename_i h;rw[ih _ aA,akU (n:=n) aA];rfl
theorem bqZ(n:Nat):Lib.itoa ((n:Nat):Int)=dec n:=by
 unfold Lib.itoa;rw[aJ,Int.toNat_natCast,bwS]
theorem avJ(n:Nat):0<(dec n).length:=by
 rcases bV n 10 with h|h
 ·rw[ahY h];simp
 rw[akU h];simp
theorem adI(hk:0<k):(dec n).length≤k↔n<10^k:=by
 induction k generalizing n with
 |zero=>omega
 |succ k ih=>
  rcases bV n 10 with h|h
  ·rw[ahY h];have:10^1≤10^(k+1):=bS aC aA;simp only[aX,aY];omega
  rw[akU h,aR,aX,aY];rcases bE k with h0|h0
  ·subst h0;have:=avJ (n/10);rw[show(10:Nat)^(0+1)=10 by decide];omega
  rw[Nat.add_le_add_iff_right,ih h0,bW,eM aC]
def pad:Nat→Nat→List UInt8
 |0,_=>[]
 |k+1,r=>pad k (r/10)++[dgt (r%10)]
theorem bnO:∀(k:Nat),10^k≤n→dec n=dec (n/10^k)++pad k (n%10^k):=by
 intro k;induction k generalizing n with
 |zero=>intro _;rw[Nat.pow_zero,Nat.div_one,pad,bJ]
 |succ k ih=>
  intro h;have hp:0<10^k:=cJ aC;have h1:10^k≤n/10:=by rw[Nat.le_div_iff_mul_le aC,←bW];exact h
  rw[akU aA,ih h1,eT,bF,pad,bO 10,←bW];congr 2
  ·congr 1
   rw[bW,bO (10^k) 10,Nat.mod_mul_right_div_self]
  rw[bW,bO (10^k) 10,Nat.mod_mul_right_mod]
theorem bdO:∀k:Nat,pad k 0=List.replicate k 48
 |0=>rfl
 |k+1=>by rw[pad,Nat.zero_div,bdO k,List.replicate_succ'];rfl
theorem bvM(hk:0<k)(h:r<10^k):pad k r=List.replicate (k-(dec r).length) 48++dec r:=by
 induction k generalizing r with
 |zero=>omega
 |succ k ih=>
  rcases bV r 10 with h1|h1
  ·rw[ahY h1,pad,show r/10=0 by omega,bdO,bN h1];simp
  have hk0:0<k:=by
   rcases bE k with h0|h0
   ·subst h0;simp at h;omega
   exact h0
  rw[akU h1,pad,ih hk0 (by rw[eM aC,←bW];exact h),aR,bF];congr 2;simp only[aX,aY];omega
theorem brL(h:0<v/1000000000):dec v=dec (v/1000000000)++(List.replicate (9-(dec (v%1000000000)).length) 48++dec (v%1000000000)):=by
 rw[←bvM aC (bX _ aC:v%1000000000<10^9)];exact bnO 9 aA
theorem aqM(h:n<BIG):(dec n).length≤2500:=
 (adI aC).2 (dF h (by unfold BIG;decide+kernel))
end
end Go.Proofs.YteedncdcbgplfaaGreatDoor
