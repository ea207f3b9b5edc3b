import Derived.Test.YtmmgbnolccpjoaaGreatDoorN1
set_option maxHeartbeats 1000000
namespace Go.Proofs.YtmmgbnolccpjoaaGreatDoor
open Go.Proofs.Tryz
open Go Go.RowKit
variable{A Z ws xs zs:List Nat}{b i k n o r v:Nat}
section
set_option maxRecDepth 100000
def mid(zs:List Nat)(o:Nat)(ws:List Nat):List Nat:=zs.take o++ws++zs.drop (o+ws.length)
theorem agQ(hn:ws.length=n)(h:o+n≤zs.length):(mid zs o ws).length=zs.length:=by
 unfold mid;simp;omega
theorem arW(h:o+n≤zs.length):mid zs o ((zs.drop o).take n)=zs:=by
 unfold mid;rw[aS,bD,show min n (zs.length-o)=n by omega,aQ];rw[←fY,dB,dB]
theorem bbD(ho:o≤zs.length)(hi:i<ws.length):(mid zs o ws).set (o+i) v=mid zs o (ws.set i v):=by
 unfold mid;rw[List.length_set,aQ,aQ,List.set_append_right _ _ (by rw[aS];omega),aS,show o+i-min o zs.length=i by omega,List.set_append_left _ _ hi]
theorem bjN(ho:o≤zs.length)(hi:i<ws.length):(mid zs o ws).getD (o+i) 0=ws.getD i 0:=by
 unfold mid;rw[aR,aR,aQ,fE (by rw[aS];omega),aS,show o+i-min o zs.length=i by omega,gB hi]
theorem afC(hz:Limbs zs)(hw:Limbs ws):Limbs (mid zs o ws):=((hz.take _).append hw).append (hz.drop _)
theorem chG(xs:List Nat)(n:Nat):∃q,val xs=val (xs.take n)+4294967296^n*q:=by
 rcases cG xs.length n with h|h
 ·exact⟨0,by rw[bA aA];omega⟩
 refine⟨val (xs.drop n),?_⟩;have:=qS (xs.take n) (xs.drop n);rw[dB,aS,dN h]at this;exact this
theorem aiO{j:Nat}(h:j<n-0):((zs.drop o).take n).getD j 0=zs.getD (o+j) 0:=by
 rw[aR,aR,eU,aJ,eV]
theorem bhU{d:Nat}(hd:0<d)(hw:ws.length=n)(hi:i<n)(hn:o+n≤zs.length)(hg:ws.getD (n-1-i) 0=zs.getD (o+(n-1-i)) 0)(h:val (ws.drop (n-i))*d+r=val (((zs.drop o).take n).drop (n-i))):
  val ((ws.set (n-1-i) ((r*4294967296+zs.getD (o+(n-1-i)) 0)/d)).drop (n-(i+1)))*d+(r*4294967296+zs.getD (o+(n-1-i)) 0)%d=val (((zs.drop o).take n).drop (n-(i+1))):=by
 have e:=aiO (zs:=zs) (o:=o) (n:=n) (j:=n-1-i) aA;rw[←e]at hg ⊢;rw[show n-i=n-1-i+1 by omega]at h;rw[show n-(i+1)=n-1-i by omega];exact axJ hd aA aG hg h
theorem auK(h:ws.length=zs.length):mid zs 0 ws=ws:=by
 unfold mid;rw[h];simp
def buX(xs:List Nat)(tl:Tail)(b o n cp s:Nat)(zs:List Nat)(H:Heap):Nat→Env→Heap→Prop:=λk env H1=>∃(i c:Nat)(ws:List Nat),i≤n∧ws.length=n∧Limbs ws∧c<2^s∧val (ws.take i)+4294967296^i*c=val (xs.take i)*2^s∧env=[(0,.mslice (some ⟨b,o,none⟩) n cp),(1,.slice 1 (U .u32 xs) tl),(2,.int .i64 (s:Int)),(6,.int .u64 (c:Int)),(9,.int .i64 (n:Int)),(10,.int .i64 (i:Int))]∧H1=H.set b (.box 166 (U .u32 (mid zs o ws)))∧k=n-i
theorem amD(xs:List Nat)(tl:Tail)(hx:Limbs xs)(hl:xs.length≤1000000)(b o n cp s:Nat)(zs:List Nat)(hz:Limbs zs)(hn:o+n≤zs.length)(hn2:n≤1000000)(hs:s<32)(H:Heap)(hb:H.objs b=some (.box 166 (U .u32 zs))):ACall prog 315 [.mslice (some ⟨b,o,none⟩) n cp,.slice 1 (U .u32 xs) tl,.int .i64 (s:Int)] H (λ_ H'=>∃ws:List Nat,ws.length=n∧Limbs ws∧val ws=val xs*2^s%4294967296^n∧H'=H.set b (.box 166 (U .u32 (mid zs o ws)))):=by
 have h2s:2^s≤2^31:=aW aC aA;have h2p:0<2^s:=bO aC;refine ACall.of_body func315 rfl ntmps315 results315 rfl ?_;iterate 2 refine AX ?_
 refine AM ?_;iterate 10 refine AX ?_
 refine AWP.loopW (buX xs tl b o n cp s zs H) (n) ⟨0,0,(zs.drop o).take n,Nat.zero_le _,by simp;omega,(hz.drop _).take _,by omega,by simp[val],rfl,(Heap.set_self (by rw[arW hn];exact hb)).symm,rfl⟩ sX (hRa _) ?_;rintro _ _ _ ⟨i,c,ws,hi,hw,hwl,hc,hv,rfl,rfl,hk⟩;iterate 6 refine AX ?_
 refine AWP.cond (tm rfl) (λhc11=>?_) (λhc11=>?_)
 ·try simp only[aO]at hc11
  have hg:=Limbs.getD hx i;obtain⟨hv2,hc2,hc3⟩:=bpR (by omega:i<ws.length) aA hg hc hv;have hml:=agQ (o:=o) hw hn;have hxs2:xs.getD i 0*2^s≤4294967295*2^s:=bC _ aA;iterate 10 refine AX ?_
  refine AWP.seqToL [(6,.int .u64 ((c+xs.getD i 0*2^s:Nat):Int))] [0,1,2,9,10,7] ?_ ?_
  ·iterate 8 refine AX ?_
   refine AWP.cond (tm rfl) (λhc16=>?_) (λhc16=>?_)
   ·try simp only[aO]at hc16
    iterate 4 refine AX ?_
    refine .p rfl (zW (i) U239 Z166 (tm rfl) (tm rfl) aA aA) ?_;iterate 3 refine AX ?_
    refine .p rfl (qB (tm rfl) (tm rfl) aA aA) (.p rfl (abU (tm rfl) (tm rfl) aA aA) (.as rfl rfl (.nil ?_)));exact⟨rfl,(zM rfl (by(rw[bjL hc])) sX),rfl⟩
   try simp only[aM,cO]at hc16
   refine AX ?_;exact⟨rfl,(zM rfl (by(rw[ahM aA,dV];rfl)) sX),rfl⟩
  refine AWP.sub [(6,_),(0,_),(1,_),(2,_),(9,_),(10,_),(7,_)] sX ?_;iterate 6 refine AX ?_
  refine .p rfl (acI (i) U239 Z166 (tm rfl) (tm rfl) aA aA) (.e0 (yU Z166 (tm rfl) (tm rfl) (oS _ _ _) aA) ?_);try first|rw[sS]|rw[sU aB]
  iterate 4 refine AX ?_
  refine AM ?_;iterate 9 refine AX ?_
  refine Round.mk (J:=buX xs tl b o n cp s zs H) ⟨i+1,_,_,by omega,by simpa using hw,Limbs.set hwl aA,hc2,hv2,rfl,by rw[bbD aA aA];rfl,rfl⟩ sX (hRa _) aA
 try simp only[aM,cO]at hc11
 iterate 4 refine AX ?_
 refine Ret.go' .nil _ (hRa _) ?_;have hin:i=n:=by omega
 subst hin;refine⟨ws,hw,hwl,?_,rfl⟩;obtain⟨q,hq⟩:=chG xs i;rw[hq,bT,bH,dU];exact blR hwl hw hv
def buW(b o n cp d:Nat)(zs:List Nat)(H:Heap):Nat→Env→Heap→Prop:=λk env H1=>∃(i r:Nat)(ws:List Nat),i≤n∧ws.length=n∧Limbs ws∧r<d∧(∀j,j<n-i→ws.getD j 0=zs.getD (o+j) 0)∧val (ws.drop (n-i))*d+r=val (((zs.drop o).take n).drop (n-i))∧env=[(0,.mslice (some ⟨b,o,none⟩) n cp),(1,.int .u32 (d:Int)),(5,.int .u64 (r:Int)),(10,.int .i64 (n:Int)),(11,.int .i64 (i:Int))]∧H1=H.set b (.box 166 (U .u32 (mid zs o ws)))∧k=n-i
theorem asY(b o n cp d:Nat)(hd:0<d)(hd2:d<4294967296)(zs:List Nat)(hz:Limbs zs)(hn:o+n≤zs.length)(hn2:n≤1000000)(H:Heap)(hb:H.objs b=some (.box 166 (U .u32 zs))):ACall prog 317 [.mslice (some ⟨b,o,none⟩) n cp,.int .u32 (d:Int)] H (λy H'=>y= .int .u32 ((val ((zs.drop o).take n)%d:Nat):Int)∧∃ws:List Nat,ws.length=n∧Limbs ws∧val ws=val ((zs.drop o).take n)/d∧H'=H.set b (.box 166 (U .u32 (mid zs o ws)))):=by
 refine .of_body func317 rfl ntmps317 results317 rfl ?_;iterate 2 refine AX ?_
 refine AM ?_;iterate 4 refine AX ?_
 refine AM ?_;iterate 11 refine AX ?_
 refine .loopW (buW b o n cp d zs H) (n) ⟨0,0,(zs.drop o).take n,Nat.zero_le _,by simp;omega,(hz.drop _).take _,by omega,λj hj=>aiO hj,by simp[val],rfl,(Heap.set_self (by rw[arW hn];exact hb)).symm,rfl⟩ sX (hRa _) ?_;rintro _ _ _ ⟨i,r,ws,hi,hw,hwl,hr,hgs,hv,rfl,rfl,hk⟩;iterate 6 refine AX ?_
 refine .cx rfl (λhc12=>?_) (λhc12=>?_)
 ·have hg:=hgs (n-1-i) aA;have hx:=Limbs.getD hz (o+(n-1-i));have hml:=agQ (o:=o) hw hn;have hsh:r*2^32<18446744073709551616:=by rw[show(2:Nat)^32=4294967296 by decide];omega
  have hgm:=Limbs.getD (afC (o:=o) hz hwl) (o+(n-1-i));obtain⟨hf1,hf2⟩:=axK hr hx hd2;have hq:(r*4294967296+zs.getD (o+(n-1-i)) 0)/d%2^IntKind.u32.bits=(r*4294967296+zs.getD (o+(n-1-i)) 0)/d:=bE hf1;have hm2:=bU (r*4294967296+zs.getD (o+(n-1-i)) 0) hd;iterate 20 refine AX ?_
  refine .seqToL [(8,.int .u64 ((r*4294967296+zs.getD (o+(n-1-i)) 0:Nat):Int))] [0,1,5,10,11,7] ?_ ?_
  ·iterate 2 refine AX ?_
   refine .p rfl (qB (tm rfl) (zR 32) aA (by exact hsh)) ?_;iterate 2 refine AX ?_
   refine .p rfl (acI (n-1-i) U239 Z166 (tm rfl) (tm rfl) aA aA) (.e rfl (yZ G166 (tm rfl) (oS _ _ _) aA) ?_);refine AX ?_;refine .p rfl (abU (tm rfl) (tm rfl) (hsh) aA) ?_;iterate 2 refine AX ?_
   exact⟨rfl,(zM rfl (by rw[bjN aA aA,hg,←akM (k:=32) (dE hx aC)]) sX),rfl⟩
  refine .sub [(8,_),(0,_),(1,_),(5,_),(10,_),(11,_),(7,_)] sX ?_;refine .draw [(0,true),(1,true),(2,true),(3,true),(4,true),(5,true),(6,true),(7,true),(8,true),(9,true),(10,true),(11,true),(12,false),(13,true)] rfl aE ?_;iterate 10 refine AX ?_
  refine .p rfl rfl (aiJ (tm rfl) (tm rfl) aA) (.p rfl rfl (acI (n-1-i) U239 Z166 (tm rfl) (tm rfl) aA aA) (.s0 rfl (yU Z166 (tm rfl) (tm rfl) (oS _ _ _) aA) ?_));rintro _ _ ⟨rfl,hH⟩;obtain rfl:=hH.symm;try first|rw[sS]|rw[sU aB]
  iterate 9 refine AX ?_
  rw[hq];refine Round.mk ⟨i+1,_,_,by omega,by simpa using hw,Limbs.set hwl hf1,hm2,λj hj=>by rw[getD_set_ne aA];exact hgs j aA,bhU hd hw aA hn hg hv,rfl,by rw[bbD aA aA],rfl⟩ sX (hRa _) aA
 iterate 14 refine AX ?_
 have hin:i=n:=by omega
 subst hin;rw[Nat.sub_self,cU,cU]at hv;rw[←hv];refine⟨?_,ws,hw,hwl,?_,rfl⟩
 ·simp only[yD];congr 1;rw[bK,fJ,bE hr,bE];simp only[IntKind.bits];omega
 rw[bK,fK hd,bW hr];rfl
end
section
open Go Go.RowKit
set_option maxRecDepth 100000
theorem clW{s:Nat}(hv:0<v)(h:v*2^s<BIG):s<8192∧zY v+s≤8192∧v<BIG:=by
 have h1:2^s≤v*2^s:=Nat.le_mul_of_pos_left _ hv;have h5:v≤v*2^s:=eR _ (bO aC);have h6:v<BIG:=aU h5 h;obtain⟨k,hk,hB⟩:∃k,k=8192∧BIG=2^k:=⟨32*256,rfl,awA _ rfl⟩;rw[hB]at h;have h2:s<k:=(Nat.pow_lt_pow_iff_right (a:=2) aC).1 (aU h1 h);have h3:v<2^(k-s):=by
  rw[show k=(k-s)+s by omega,bI]at h;exact fF h
 have h4:=yQ.2 h3;exact⟨by omega,by omega,h6⟩
theorem anZ{s:Nat}(h:v*2^s<BIG):v<BIG:=aU (eR _ (bO aC)) h
theorem anT(s:Nat):4294967296^(s/32)*2^(s%32)=2^s:=by
 rw[show(4294967296:Nat)=2^32 by decide,←eE,←bI];congr 1;omega
theorem caR{m:Nat}(h:o+ws.length=m):val (mid (List.replicate m 0) (0+o) ws)=4294967296^o*val ws:=by
 unfold mid;rw[bZ,List.take_replicate,List.drop_replicate,aQ,qS,aoV,qS,aoV,cE,dN aA,dQ,cB,bZ]
theorem ciA{s:Nat}(hv:v<4294967296^n)(hw:val ws=v*2^(s%32)%4294967296^(n+1)):4294967296^(s/32)*val ws=v*2^s:=by
 have h1:2^(s%32)≤2^31:=aW aC aA;have h2:v*2^(s%32)<4294967296^n*4294967296:=Nat.mul_lt_mul_of_lt_of_le hv aA aC;rw[hw,bE (by rw[bQ];exact h2),Nat.mul_left_comm,anT]
theorem bgQ(xs:List Nat)(tl:Tail)(hx:Limbs xs)(hl:xs.length≤1000000)(s:Nat)(hs:val xs*2^s<BIG)(hs2:s<1000000000):Fn 272 [.slice 1 (U .u32 xs) tl,.int .i64 (s:Int)] (.tuple [qL (val xs*2^s),.int .i64 0]):=by
 intro H;have hB:=anZ hs;have h256:=yI hB;have hr:=aaU xs;have hrl:=abK hx;refine .of_body func272 rfl ntmps272 results272 rfl ?_;iterate 2 refine AX ?_
 iterate 2 refine AM ?_
 iterate 7 refine AX ?_
 refine AM ?_;iterate 3 refine AX ?_
 refine .cx rfl (λhc7=>?_) (λhc7=>?_)
 ·omega
 iterate 3 refine AX ?_
 refine .e rfl (qM U327 Z239 V239 rfl (tm rfl) (.inl rfl) ⟨rfl,rfl⟩) (.cl rfl C310 (evs1 rfl) (auG _ _ _ aB aB _) ?_);iterate 3 refine AX ?_
 refine .cx rfl (λhc10=>?_) (λhc10=>?_)
 ·omega
 iterate 3 refine AX ?_
 refine .cl rfl C314 (evs1 rfl) (adO _ _ aB aB _) ?_;refine AM ?_;iterate 3 refine AX ?_
 refine .cx rfl (λhc14=>?_) (λhc14=>?_)
 ·iterate 2 refine AX ?_
  iterate 2 refine AM ?_
  iterate 6 refine AX ?_
  refine⟨?_,rfl⟩;rw[aaN aA,dV];rfl
 have hpos:0<val xs:=eI (λh=>by have:=aaO h;omega);obtain⟨hs3,hs4,_⟩:=clW hpos hs;refine .seqTo 18 (.bool (false)) [0,1,4,5] ?_ ?_
 ·iterate 2 refine AX ?_
  refine AM ?_;refine AX ?_;refine zC (t:=21) rfl (λhg21=>?_) (λhg21=>?_)
  ·iterate 8 refine AX ?_
   exact⟨rfl,zL rfl (by(simp at hg21;omega)) sX,rfl⟩
  refine AX ?_;refine .gs rfl rfl rfl aB (zB C271 (evs1 rfl) (bgT _ _ aB aB _)) ?_;rintro _ _ ⟨rfl,hH⟩;obtain rfl:=hH.symm;iterate 2 refine AX ?_
  refine AM ?_;iterate 3 refine AX ?_
  exact⟨rfl,zL rfl (by(simp;omega)) sX,rfl⟩
 refine .sub [(18,_),(0,_),(1,_),(4,_),(5,_)] sX ?_;refine .cond_false (tm rfl) aD ?_;iterate 6 refine AX ?_
 refine .cl rfl C311 (evs1 rfl) (aaJ _ _ aB aB _) ?_;iterate 6 refine AX ?_
 refine AM ?_;iterate 3 refine AX ?_
 refine AM ?_;refine .s rfl (yP (s/32+(zE (val xs)).length+1) U239 typeInfo166 Z166 V166 (tm rfl) (tm rfl) aA aA aC aA) ?_;rintro _ _ ⟨b36,rfl,hb36,hH⟩;obtain rfl:=hH.symm;iterate 7 refine AX ?_
 refine AM ?_;refine .p rfl (baJ (_) U239 Z166 (tm rfl) (tm rfl) rfl aA aA aA) ?_;iterate 2 refine AX ?_
 refine AM ?_;refine .s rfl (zB call315 (evs3 rfl rfl rfl) (amD (zE (val xs)) .shared (zF _) aA b36 (0+s/32) _ _ (s%32) (List.replicate (s/32+(zE (val xs)).length+1) 0) (Limbs.rep aA) aG aA (bU _ aC) _ (oS _ _ _))) ?_;rintro _ _ ⟨ws,hw,hwl,hv,hH⟩;obtain rfl:=hH.symm;rw[sS];iterate 3 refine AX ?_
 rw[show s/32+(zE (val xs)).length+1-s/32=(zE (val xs)).length+1 by omega]at hw hv;have hmL:=afC (o:=0+s/32) (Limbs.rep (n:=s/32+(zE (val xs)).length+1) (x:=0) aA) hwl;have hml:(mid (List.replicate (s/32+(zE (val xs)).length+1) 0) (0+s/32) ws).length≤1000000:=by rw[agQ hw aG];simp;omega
 refine .frzU (t:=6) rfl hb36 (by rw[agQ hw aG];simp) (aV _) (by simp only[zJ];omega) ?_;rw[bA (by rw[agQ hw aG];simp)];iterate 2 refine AX ?_
 refine .cl rfl C311 (evs1 rfl) (aaJ _ _ aB aB _) ?_;refine AX ?_;refine AM ?_;iterate 4 refine AX ?_
 refine⟨?_,rfl⟩;rw[zG]at hv;rw[caR aA,ciA (qK.1 (aV _)) hv];rfl
end
theorem bkN{P:Program}{cd:Code}{Q:Exit→Env→Heap→Prop}{env:Env}{H:Heap}{b:Bool}{t:Nat}(_h:env.get? t=some (.bool b))(ht:b=true→AWP P n cd Q env H)(hf:b=false→AWP P n cd Q env H):AWP P n cd Q env H:=by
 grind
theorem ceY(x r:Nat):x&&&(2^r-1)=x%2^r:=dC x r
def azR(r:Nat):List Nat→List Nat
 | []=>[]
 |x::xs=>(x+xs.getD 0 0*4294967296)/2^r%4294967296::azR r xs
theorem arQ(r:Nat):∀xs:List Nat,(azR r xs).length=xs.length
 | []=>rfl
 |x::xs=>by rw[azR,aX,aX,arQ r xs]
theorem axI(r:Nat):∀xs:List Nat,Limbs (azR r xs)
 | []=>Limbs.nil
 |x::xs=>Limbs.mk (bU _ aC) (axI r xs)
theorem blY(r:Nat)(h:i<xs.length):(azR r xs).getD i 0=(xs.getD i 0+xs.getD (i+1) 0*4294967296)/2^r%4294967296:=by
 induction xs generalizing i with
 |nil=>simp at h
 |cons x xs ih=>
  rw[azR];cases i with
  |zero=>rw[cI,cI,dG]
  |succ i=>rw[dG,dG,dG];exact ih (by simpa using h)
theorem cbH{x y W P D:Nat}(hr:2^r=P)(hB:4294967296=P*D)(hx:x<4294967296):
  (x+4294967296*(y+4294967296*W))/P=(x+y*4294967296)/P%4294967296+4294967296*((y+4294967296*W)/P):=by
 have hP:0<P:=by rw[←hr];exact bO aC
 have hD:0<D:=by
  rcases bJ D with h|h
  ·grind
  exact h
 have hxD:x/P<D:=by rw[bR hP,bK,←hB];exact hx
 have e1:∀Z,(x+4294967296*Z)/P=x/P+D*Z:=λZ=>by rw[hB,bH,gG _ _ hP]
 rw[e1,bK y,e1];generalize hV:y+4294967296*W=V;have ht:V%P=y%P:=by rw[←hV,hB,bH,dU]
 have hm:=bU y hP;have e2:D*V=D*(y%P)+4294967296*(V/P):=by
  rw[←ht]
  conv=>lhs;rw[←cH V P]
  rw[cA,hB,←bH,bK D P];omega
 have e3:D*y=D*(y%P)+4294967296*(y/P):=by
  conv=>lhs;rw[←cH y P]
  rw[cA,hB,←bH,bK D P];omega
 have hlt:x/P+D*(y%P)<4294967296:=by
  have h1:D*(y%P+1)≤D*P:=bV _ hm;rw[cA,bK D P,←hB]at h1;omega
 rw[e2,e3,←eG,←eG,dU,bE hlt]
theorem azQ{r:Nat}(hr:r≤32):∀{xs:List Nat},Limbs xs→val (azR r xs)=val xs/2^r
 | [],_=>by simp[azR,val]
 |x::xs,h=>by
  obtain⟨hx,hxs⟩:=h.cons;rw[azR,val,val,azQ hr hxs];have hB:4294967296=2^r*2^(32-r):=by rw[←bI,show r+(32-r)=32 by omega]
  cases xs with
  |nil=>
   simp only[val,List.getD_nil,dV,dQ,cB,Nat.zero_div];rw[bE];exact aU (cY _ _) hx
  |cons y ys=>
   rw[cI,val];exact(cbH rfl hB hx).symm
theorem chZ(hl:A.length=Z.length)(hi:i<Z.length):(A.take i++Z.drop i).set i (A.getD i 0)=A.take (i+1)++Z.drop (i+1):=by
 have hA:i<A.length:=by omega
 rw[List.set_append_right _ _ (by rw[aS];omega),aS,show i-min i A.length=0 by omega,cD hi,List.set_cons_zero,←cV hA,aQ,aR,bG hA];rfl
theorem buU{j:Nat}(hl:A.length=Z.length)(hi:i≤Z.length)(hj:i≤j):(A.take i++Z.drop i).getD j 0=Z.getD j 0:=by
 grind
theorem bhS(hl:A.length=Z.length)(hi:i≤Z.length):(A.take i++Z.drop i).length=Z.length:=by
 grind
theorem bsW{ys:List Nat}{m:Nat}(h:ys.length=m):(List.replicate m 0).take 0++ys.take m++(List.replicate m 0).drop (0+min ys.length m)=ys:=by
 grind
theorem ahB(h:k≤xs.length):val xs=val (xs.take k)+4294967296^k*val (xs.drop k):=by
 have:=qS (xs.take k) (xs.drop k);rw[dB,aS,dN h]at this;exact this
theorem aoX(hx:Limbs xs)(h:k≤xs.length):val (xs.take k)<4294967296^k:=by
 have:=agG (hx.take k)
 rwa[aS,dN h]at this
theorem aoI(hx:Limbs xs)(h:k≤xs.length):val (xs.drop k)=val xs/4294967296^k:=by
 have h1:=ahB h;have h2:=aoX hx h;rw[h1,gG _ _ (bO aC),bW h2,bZ]
theorem chY{s:Nat}(h:s/32≤(zE v).length):val (azR (s%32) ((zE v).drop (s/32)))=v/2^s:=by
 rw[azQ aA ((zF v).drop _),aoI (zF v) h,zG,bY,anT]
theorem cbG{s:Nat}(h:(zE v).length≤s/32):v<2^s:=by
 have h1:=qK.1 h;have h2:4294967296^(s/32)≤2^s:=by
  rw[←anT];exact eR _ (bO aC)
 omega
theorem bnO{s:Nat}(h:s/32<(zE v).length):v%2^s=0↔yX ((zE v).take (s/32))=0∧(zE v).getD (s/32) 0%2^(s%32)=0:=by
 have h1:=ahB (cT h);have h2:=aoX (zF v) (cT h);rw[zG]at h1;have e:v%2^s=val ((zE v).take (s/32))+4294967296^(s/32)*((zE v).getD (s/32) 0%2^(s%32)):=by
  rw[←anT,Nat.mod_mul];have hd:(zE v).drop (s/32)=(zE v).getD (s/32) 0::(zE v).drop (s/32+1):=by
   rw[cD h,aR,bG h];rfl
  have h3:v/4294967296^(s/32)=(zE v).getD (s/32) 0+4294967296*val ((zE v).drop (s/32+1)):=by
   have:=aoI (zF v) (cT h);rw[hd,zG,val]at this;exact this.symm
  have h4:v%4294967296^(s/32)=val ((zE v).take (s/32)):=by
   conv=>lhs;rw[h1]
   rw[dU,bE h2]
  rw[h3,h4];congr 2;rw[show(4294967296:Nat)=2^(s%32)*2^(32-s%32) by rw[←bI,show s%32+(32-s%32)=32 by omega],bH,dU]
 rw[e];have hp:0<4294967296^(s/32):=bO aC;constructor
 ·intro h;refine⟨aaO aA,?_⟩;have h0:4294967296^(s/32)*((zE v).getD (s/32) 0%2^(s%32))=0:=by omega
  rcases Nat.mul_eq_zero.1 h0 with h5|h5
  ·omega
  exact h5
 rintro⟨h5,h6⟩;rw[aaN h5,h6];rfl
section
open Go Go.RowKit
set_option maxRecDepth 100000
theorem cjN{s:Nat}(h:s/32<(zE v).length)(hg:decide (((0:Nat):Int)<(yX ((zE v).take (s/32)):Int))=false):decide (¬(((((zE v).drop (s/32)).getD 0 0&&&(1*2^(s%32)-1):Nat):Int)=((0:Nat):Int)))=decide (v%2^s≠0):=by
 have e:((zE v).drop (s/32)).getD 0 0=(zE v).getD (s/32) 0:=by
  rw[aR,aR,eV];rfl
 have hg2:yX ((zE v).take (s/32))=0:=by simpa using hg
 have hl:=bnO h;rw[aT,e,cK,ceY];constructor
 ·intro h1 h2;exact h1 (by rw[(hl.1 h2).2])
 intro h1 h2;exact h1 (hl.2 ⟨hg2,by omega⟩)
theorem cjP:decide (((0:Nat):Int)<((zE v).length:Int))=decide (v≠0):=by
 rw[aT];rcases bJ v with h|h
 ·subst h;rw[aaX];simp
 rw[qR h];simp;omega
def clV(v s:Nat)(b:Nat)(H:Heap):Nat→Env→Heap→Prop:=λk env H1=>∃i:Nat,i≤((zE v).length-s/32)∧env=[(8,.bool (decide (v%2^s≠0))),(9,.mslice (some ⟨b,0,none⟩) ((zE v).length-s/32) ((zE v).length-s/32)),(10,.int .i64 ((s%32:Nat):Int)),(66,.int .i64 ((((zE v).length-s/32):Nat):Int)),(67,.int .i64 (i:Int))]∧H1=H.set b (.box 166 (U .u32 ((azR (s%32) ((zE v).drop (s/32))).take i++((zE v).drop (s/32)).drop i)))∧k=((zE v).length-s/32)-i
theorem caD(xs:List Nat)(tl:Tail)(hx:Limbs xs)(hl:xs.length≤1000000)(s:Nat)(hs:val xs<BIG)(hs2:s<1000000000):Fn 276 [.slice 1 (U .u32 xs) tl,.int .i64 (s:Int)] (.tuple [qL (val xs/2^s),.bool (decide (val xs%2^s≠0)),.int .i64 0]):=by
 intro H;have h256:=yI hs;have hr:=aaU xs;have hrl:=abK hx;refine .of_body func276 rfl ntmps276 results276 rfl ?_;iterate 2 refine AX ?_
 refine AM ?_;refine AX ?_;refine AM ?_;iterate 7 refine AX ?_
 refine AM ?_;iterate 3 refine AX ?_
 refine .cx rfl (λhc13=>?_) (λhc13=>?_)
 ·omega
 iterate 3 refine AX ?_
 refine .e rfl (qM U327 Z239 V239 rfl (tm rfl) (.inl rfl) ⟨rfl,rfl⟩) (.cl rfl C310 (evs1 rfl) (auG _ _ _ aB aB _) ?_);iterate 3 refine AX ?_
 refine .cx rfl (λhc16=>?_) (λhc16=>?_)
 ·omega
 iterate 6 refine AX ?_
 refine .cl rfl C311 (evs1 rfl) (aaJ _ _ aB aB _) ?_;iterate 3 refine AX ?_
 refine .seqToL [(7,.int .i64 ((min (s/32) (zE (val xs)).length:Nat):Int))] [0,1,4,5,6] ?_ ?_
 ·iterate 2 refine AX ?_
  refine AM ?_;iterate 5 refine AX ?_
  exact⟨rfl,(zM rfl (by congr 1;simp only[btO];first|omega|(split<;>omega)) sX),rfl⟩
 refine .sub [(7,_),(0,_),(1,_),(4,_),(5,_),(6,_)] sX ?_;refine AX ?_;generalize hK:min (s/32) (zE (val xs)).length=K;generalize val xs=v at *;have htk:=(zF v).take K;have htl:((zE v).take K).length≤1000000:=by simp;omega
 have hp2:1≤2^(s%32):=bO aC;have hp3:2^(s%32)≤2147483648:=aZ (aW aC (by omega:s%32≤31)) aC;iterate 3 refine AX ?_
 refine .p rfl (aeD (_) U239 Z166 (tm rfl) (tm rfl) rfl aA) (.cl rfl C314 (evs1 rfl) (adO _ _ aB aB _) ?_);refine AM ?_;iterate 9 refine AX ?_
 refine .s rfl (yP ((zE v).length-K) U239 typeInfo166 Z166 V166 (tm rfl) (tm rfl) aA aA aC aA) ?_;rintro _ _ ⟨b36,rfl,hb36,hH⟩;obtain rfl:=hH.symm;iterate 8 refine AX ?_
 refine .p rfl (anP (_) U239 Z166 (tm rfl) (tm rfl) rfl aA) (.e rfl (aoZ U239 Z166 (tm rfl) (tm rfl) (oS _ _ _) (by(simp;done))) ?_);try first|rw[sS]|rw[sU aB]
 iterate 3 refine AX ?_
 rw[bsW aF];iterate 2 refine AX ?_
 refine AM ?_;iterate 4 refine AX ?_
 refine .seqTo 52 (.bool (decide ((zE v).length≤s/32))) [4,5,6,8,9,10] ?_ ?_
 ·iterate 3 refine AX ?_
  refine AM ?_;refine AX ?_;refine zC (t:=47) rfl (λhg47=>?_) (λhg47=>?_)
  ·iterate 6 refine AX ?_
   exact⟨rfl,zL rfl (by(simp at hg47;simp;omega)) sX,rfl⟩
  iterate 2 refine AX ?_
  refine AM ?_;iterate 3 refine AX ?_
  exact⟨rfl,zL rfl (by(simp at hg47;simp;omega)) sX,rfl⟩
 refine .sub [(52,_),(4,_),(5,_),(6,_),(8,_),(9,_),(10,_)] sX ?_;refine .cx rfl (λhc52=>?_) (λhc52=>?_)
 ·refine AX ?_;refine .frzU (t:=9) rfl hb36 (by simp<;>omega) (aV _) (by simp only[zJ];omega) ?_;iterate 2 refine AX ?_
  refine AM ?_;refine AX ?_;refine AM ?_;iterate 5 refine AX ?_
  refine⟨?_,rfl⟩;have hle:(zE v).length≤s/32:=by omega
  have hvs:=cbG hle;rw[bA aA,ajF,bW hvs,bE hvs,cjP];rfl
 have hK2:K=s/32:=by omega
 subst hK2;have hlt:s/32<(zE v).length:=by omega
 have hli:=bnO hlt;have hx00:=Limbs.getD ((zF v).drop (s/32)) 0;have hAl:(azR (s%32) ((zE v).drop (s/32))).length=((zE v).drop (s/32)).length:=arQ _ _;have hZl:((zE v).drop (s/32)).length=((zE v).length-s/32):=bD;iterate 2 refine AX ?_
 refine .seqTo 8 (.bool (decide (v%2^s≠0))) [4,5,6,9,10] ?_ ?_
 ·refine bkN (t:=8) rfl (λhg8=>?_) (λhg8=>?_)
  ·refine .draw [(0,true),(1,true),(2,true),(3,true),(4,true),(5,true),(6,true),(7,true),(8,true),(9,true),(10,true),(11,true)] rfl aE ?_;iterate 13 refine AX ?_
   exact⟨rfl,zL rfl (by(simp at hg8;simp;omega)) sX,rfl⟩
  refine .draw [(0,true),(1,true),(2,true),(3,true),(5,true),(6,true),(7,true),(4,false),(8,true),(9,true),(10,true),(11,true)] rfl aE ?_;iterate 3 refine AX ?_
  refine .gp rfl rfl rfl rfl aB (yH (0) U239 Z166 (tm rfl) (zR 0) aA aA) ?_;refine AX ?_;refine .gp rfl rfl rfl rfl aB (amK (zR 1) (tm rfl) aA aA) (.gp rfl rfl rfl rfl aB (biU (tm rfl) (zR 1) aA aA) (.gs rfl rfl rfl rfl aB (yZ G166 (tm rfl) (oS _ _ _) aA) ?_));rintro _ _ ⟨rfl,hH⟩;obtain rfl:=hH.symm;refine .gp rfl rfl rfl rfl aB (axY (tm rfl) (tm rfl) aB aA) ?_;refine AM ?_;iterate 3 refine AX ?_
  exact⟨rfl,zL rfl (cjN hlt hg8) sX,rfl⟩
 refine .sub [(8,_),(4,_),(5,_),(6,_),(9,_),(10,_)] sX ?_;iterate 5 refine AX ?_
 refine AM ?_;iterate 3 refine AX ?_
 refine .loopW (clV v s b36 H) (((zE v).length-s/32)) ⟨0,Nat.zero_le _,rfl,rfl,rfl⟩ sX (hRa _) ?_;rintro _ _ _ ⟨i,hi,rfl,rfl,hk⟩;iterate 6 refine AX ?_
 refine .cx rfl (λhc68=>?_) (λhc68=>?_)
 ·have hi2:i<((zE v).length-s/32):=by omega
  have hrl2:=bhS hAl (by omega:i≤((zE v).drop (s/32)).length);have hg0:=buU hAl (by omega:i≤((zE v).drop (s/32)).length) (aV i);have hg1:=buU hAl (by omega:i≤((zE v).drop (s/32)).length) (by omega:i≤i+1);have hx0:=Limbs.getD ((zF v).drop (s/32)) i;have hx1:=Limbs.getD ((zF v).drop (s/32)) (i+1);iterate 14 refine AX ?_
  refine .p rfl (yH (i) U239 Z166 (tm rfl) (tm rfl) aA aA) (.e rfl (yZ G166 (tm rfl) (oS _ _ _) aA) ?_);iterate 4 refine AX ?_
  refine .seqToL [(12,.int .u64 ((((zE v).drop (s/32)).getD i 0+((zE v).drop (s/32)).getD (i+1) 0*4294967296:Nat):Int))] [8,9,10,66,67,11] ?_ ?_
  ·iterate 3 refine AX ?_
   refine AM ?_;iterate 5 refine AX ?_
   refine .cx rfl (λhc79=>?_) (λhc79=>?_)
   ·iterate 4 refine AX ?_
    refine AM ?_;refine .p rfl (yH (i+1) U239 Z166 (tm rfl) (tm rfl) aA aA) (.e rfl (yZ G166 (tm rfl) (oS _ _ _) aA) ?_);refine AX ?_;refine .p rfl (qB (tm rfl) (zR 32) aA (by rw[show(2:Nat)^32=4294967296 by decide];omega)) (.p rfl (abU (tm rfl) (tm rfl) aA aA) ?_);iterate 2 refine AX ?_
    exact⟨rfl,(zM rfl (by(rw[hg0,hg1,bjL (k:=32) (dE hx0 aC)]<;>rfl)) sX),rfl⟩
   refine AX ?_;exact⟨rfl,(zM rfl (by(rw[hg0,ahM (i:=i+1) aA,dV]<;>rfl)) sX),rfl⟩
  refine .sub [(12,_),(8,_),(9,_),(10,_),(66,_),(67,_),(11,_)] sX ?_;iterate 5 refine AX ?_
  refine .p rfl (aaC (tm rfl) (tm rfl) aA) ?_;refine AX ?_;refine .p rfl (yH (i) U239 Z166 (tm rfl) (tm rfl) aA aA) (.e0 (yU Z166 (tm rfl) (tm rfl) (oS _ _ _) aA) ?_);try first|rw[sS]|rw[sU aB]
  iterate 4 refine AX ?_
  refine AM ?_;iterate 3 refine AX ?_
  refine Round.mk ⟨i+1,by omega,rfl,by rw[←chZ hAl aA,blY _ aA];rfl,rfl⟩ sX (hRa _) aA
 iterate 6 refine AX ?_
 have hi3:i=((zE v).length-s/32):=by omega
 refine .frzU (t:=9) rfl hb36 (by rw[bhS hAl aA];omega) (aV _) (by simp only[zJ];omega) ?_;rw[bA (l:=_++_) (by rw[bhS hAl aA];omega),bA (l:=azR (s%32) ((zE v).drop (s/32))) aA,eJ (l:=((zE v).drop (s/32))) aA,bP];have hAL:=axI (s%32) ((zE v).drop (s/32));iterate 2 refine AX ?_
 refine .cl rfl C311 (evs1 rfl) (aaJ _ _ aB aA _) ?_;iterate 3 refine AX ?_
 refine AM ?_;iterate 4 refine AX ?_
 refine⟨?_,rfl⟩;rw[chY aA];rfl
end
section
open Go Go.RowKit
set_option maxRecDepth 100000
theorem aoC(h:n<BIG):(zE n).length≤1000000:=aZ (yI h) aC
theorem addB(a b:Nat)(h:a+b<BIG):Fn 309 [qL a,qL b] (.tuple [qL (a+b),.int .i64 0]):=by
 intro H;have:=caJ (zE a) .shared (zF a) (aoC aA) (zE b) .shared (zF b) (aoC aA) H
 rwa[zG,zG,ckE,bdS h]at this
theorem mulB(a b:Nat)(ha:a<BIG)(hb:b<BIG)(h:a*b<BIG):Fn 269 [qL a,qL b] (.tuple [qL (a*b),.int .i64 0]):=by
 intro H;have:=caF (zE a) .shared (zF a) (aoC ha) (zE b) .shared (zF b) (aoC hb) H
 rwa[zG,zG,cnV,bdS ⟨ha,hb,h⟩]at this
theorem shlB(a s:Nat)(h:a*2^s<BIG)(hs:s<1000000000):Fn 272 [qL a,.int .i64 (s:Int)] (.tuple [qL (a*2^s),.int .i64 0]):=by
 intro H;have:=bgQ (zE a) .shared (zF a) (aoC (anZ h)) s (by rwa[zG]) hs H
 rwa[zG]at this
theorem shrB(a s:Nat)(h:a<BIG)(hs:s<1000000000):Fn 276 [qL a,.int .i64 (s:Int)] (.tuple [qL (a/2^s),.bool (decide (a%2^s≠0)),.int .i64 0]):=by
 intro H;have:=caD (zE a) .shared (zF a) (aoC h) s (by rwa[zG]) hs H
 rwa[zG]at this
theorem lenB(a:Nat)(h:a<BIG):Fn 271 [qL a] (.int .i64 (zY a:Int)):=by
 intro H;have:=bgT (zE a) .shared (zF a) (aoC h) H
 rwa[zG]at this
theorem cmpB(a b:Nat)(ha:a<BIG)(hb:b<BIG):Fn 316 [qL a,qL b] (.int .i64 (arE a b)):=by
 intro H;have:=caH (zE a) .shared (zF a) (aoC ha) (zE b) .shared (zF b) (aoC hb) H
 rwa[zG,zG]at this
def cmH(b n:Nat)(H:Heap):Nat→Env→Heap→Prop:=λk env H1=>∃i:Nat,i≤n∧env=[(0,.int .i64 (b:Int)),(6,qL (b^i)),(7,.int .i64 0),(30,.int .i64 (n:Int)),(31,.int .i64 (i:Int))]∧H=H1∧k=n-i
theorem avQ(b n:Nat)(hb:2≤b)(hb2:b≤1000000)(hn2:n<1000000000)(h:b^n<BIG)(H:Heap):ACall prog 268 [.int .i64 (b:Int),.int .i64 (n:Int)] H (λy H'=>y= .tuple [qL (b^n),.int .i64 0]∧H'=H):=by
 refine ACall.of_body func268 rfl ntmps268 results268 rfl ?_;refine .seq (.region ?_);refine .p rfl (zT (boD (sz:=1) (tl:=.shared))) ?_;refine .p rfl (zT zH) (.nil ?_);refine Next.go ?_;refine .seq ?_;refine AWP.seqTo 17 (.bool (false)) [0,1,4,5] ?_ ?_
 ·refine .region (.mv rfl rfl (.p rfl (baQ (tm rfl) zH) (.mv rfl rfl ?_)));refine zC (t:=10) rfl (λhg10=>?_) (λhg10=>?_)
  ·refine .gn rfl rfl rfl aB (.gn rfl rfl rfl aB (.p rfl (yS (tm rfl) aB yK) (.mv rfl rfl (.gn rfl rfl rfl aD (.gn rfl rfl rfl aD (.p rfl (yS (tm rfl) aD yK) ?_))))));refine AX ?_;exact⟨rfl,zL rfl (by(simp at hg10;omega)) sX,rfl⟩
  iterate 4 refine AX ?_
  refine zC (t:=14) rfl (λhg14=>?_) (λhg14=>?_)
  ·iterate 4 refine AX ?_
   exact⟨rfl,zL rfl (by(simp at hg14;omega)) sX,rfl⟩
  iterate 4 refine AX ?_
  exact⟨rfl,zL rfl aD sX,rfl⟩
 refine AWP.sub [(17,_),(0,_),(1,_),(4,_),(5,_)] sX ?_;refine AWP.cond_false (tm rfl) aD ?_;iterate 4 refine AX ?_
 refine .e rfl (qM U239 Z166 V166 rfl (zR 1) (.inl rfl) ⟨rfl,rfl⟩) ?_;iterate 5 refine AX ?_
 refine AWP.seqTo 19 (.bool (false)) [0,1,4,5,6] ?_ ?_
 ·iterate 4 refine AX ?_
  refine zC (t:=22) rfl (λhg22=>?_) (λhg22=>?_)
  ·iterate 5 refine AX ?_
   exact⟨rfl,zL rfl (by(simp at hg22;omega)) sX,rfl⟩
  iterate 5 refine AX ?_
  exact⟨rfl,zL rfl aD sX,rfl⟩
 refine AWP.sub [(19,_),(0,_),(1,_),(4,_),(5,_),(6,_)] sX ?_;refine AWP.cond_false (tm rfl) aD ?_;iterate 7 refine AX ?_
 refine AWP.cond (tm rfl) (λhc26=>?_) (λhc26=>?_)
 ·try simp only[aO]at hc26
  omega
 try simp only[aM,dO]at hc26
 iterate 4 refine AX ?_
 refine AWP.weakv (qL (b^0)) (t:=6) rfl (.slice _ _ _) ?_;iterate 12 refine AX ?_
 refine AWP.loopW (cmH b n H) (n) ⟨0,Nat.zero_le _,rfl,rfl,rfl⟩ sX (hRa _) ?_;rintro _ _ _ ⟨i,hi,rfl,rfl,hk⟩;iterate 6 refine AX ?_
 refine AWP.cond (tm rfl) (λhc32=>?_) (λhc32=>?_)
 ·try simp only[aO]at hc32
  have hle:b^(i+1)≤b^n:=aW aA aA;have hp:b^i*b<BIG:=aU hle h;have hp0:b^i≤b^n:=aW aA aA;have hbB:b<BIG:=aU hb2 (by unfold BIG;decide+kernel);have hiB:b^i<BIG:=by omega
  iterate 9 refine AX ?_
  refine .cl rfl C230 (evs1 rfl) (asI _ aA _) (.cl rfl C269 (evs2 rfl rfl) (mulB _ _ aB aB aB _) ?_);iterate 13 refine AX ?_
  refine AWP.cond_false (tm rfl) aD ?_;iterate 8 refine AX ?_
  refine Round.mk (J:=cmH b n H) ⟨i+1,by omega,rfl,rfl,rfl⟩ sX (hRa _) aA
 try simp only[aM,cO]at hc32
 iterate 13 refine AX ?_
 refine Ret.go (.cons (.tmp _ _ rfl) (.cons (.tmp _ _ rfl) .nil)) _ (hRa _) ?_;refine⟨?_,rfl⟩;rw[show i=n by omega];rfl
end
section
open Go Go.RowKit
set_option maxRecDepth 100000
theorem bfE(hn:ws.length=n)(ho:o≤zs.length):((mid zs o ws).drop o).take n=ws:=by
 unfold mid;have e:(zs.take o).length=o:=by rw[aS];omega
 rw[aQ,List.drop_append_of_le_length aA,eJ aA,cJ,dZ aA,bA aA]
theorem bsV(h:r≤xs.length):(List.replicate r 0).take 0++xs.take r++(List.replicate r 0).drop (0+min xs.length r)=xs.take r:=by
 rw[eJ aG];simp
theorem cnH{a:Nat}(h:arE a b<0):a<b:=by
 unfold arE at h;split at h
 ·assumption
 split at h<;>simp at h
theorem cnI{a:Nat}(h:¬arE a b<0):b≤a:=by
 unfold arE at h;split at h
 ·simp at h
 omega
theorem cjQ(h:(zE b).length=1):zE b=[b]∧0<b∧b<4294967296:=by
 have h0:0<b:=by
  rcases bJ b with h1|h1
  ·rw[h1,aaX]at h;simp at h
  exact h1
 have h1:=qK.1 (Nat.le_of_eq h);refine⟨?_,h0,by omega⟩;rw[qR h0,show b/4294967296=0 by omega,bE aA];rfl
theorem boX(xs:List Nat)(tl:Tail)(hx:Limbs xs)(hl:xs.length≤1000000)(H:Heap):ACall prog 278 [.slice 1 (U .u32 xs) tl] H (λy H'=>∃b:Nat,H.objs b=none∧y= .mslice (some ⟨b,0,none⟩) (zE (val xs)).length (zE (val xs)).length∧H'=H.set b (.box 166 (U .u32 (zE (val xs))))):=by
 have hr:=aaU xs;have hrl:=abK hx;refine .of_body func278 rfl ntmps278 results278 rfl ?_;iterate 2 refine AX ?_
 refine AX ?_;iterate 5 refine AX ?_
 refine .cl rfl C314 (evs1 rfl) (adO _ _ aB aB _) (.s rfl (yP (_) U239 typeInfo166 Z166 V166 (tm rfl) (tm rfl) rfl rfl aC aA) ?_);rintro _ _ ⟨b6,rfl,hb6,hH⟩;obtain rfl:=hH.symm;iterate 7 refine AX ?_
 refine .e rfl (aoZ U239 Z166 (tm rfl) (tm rfl) (oS _ _ _) (by(simp;done))) ?_;try first|rw[sS]|rw[sU aB]
 iterate 10 refine AX ?_
 rw[bsV hr,aeP hx,hrl];exact⟨b6,hb6,rfl,rfl⟩
theorem cutB(a:Nat)(h:(zE a).length≤1000000):Fn 311 [qL a] (qL a):=by
 intro H;have:=aaJ (zE a) .shared (zF a) h H
 rwa[zG]at this
end
section
open Go Go.RowKit
set_option maxRecDepth 100000
def bmG(b n c:Nat)(zs:List Nat)(H:Heap):Nat→Env→Heap→Prop:=λk env H1=>∃i:Nat,i≤n∧yX (zs.take i)=yX (zs.take n)∧env=[(0,.mslice (some ⟨b,0,none⟩) n c),(3,.int .i64 (i:Int))]∧H=H1∧k=i
theorem bdN(b n c:Nat)(zs:List Nat)(hz:Limbs zs)(hn:n≤zs.length)(hn2:n≤1000000)(hc:n≤c)(H:Heap)(hb:H.objs b=some (.box 166 (U .u32 zs))):ACall prog 314 [.mslice (some ⟨b,0,none⟩) n c] H (λy H'=>y= .int .i64 (yX (zs.take n):Int)∧H'=H):=by
 refine .of_body func314 rfl ntmps314 results314 rfl ?_;iterate 14 refine AX ?_
 refine .loopW (bmG b n c zs H) (n) ⟨n,aV _,rfl,rfl,rfl,rfl⟩ sX (hRa _) ?_;rintro _ _ _ ⟨i,hi,hr,rfl,rfl,hk⟩;refine AX ?_;refine .seqTo 15 (.bool (decide (0<(i:Int))&&decide (((zs.getD (i-1) 0:Nat):Int)=0))) [0,3] ?_ ?_
 ·iterate 4 refine AX ?_
  refine zC (t:=8) rfl (λhg8=>?_) (λhg8=>?_)
  ·have hh8:=hg8;try simp only[aO]at hh8
   iterate 3 refine AX ?_
   refine .gp rfl rfl rfl aB (yH (i-1) U239 Z166 (tm rfl) (tm rfl) aA aA) (.gs rfl rfl rfl aB (yZ G166 (tm rfl) aB aA) ?_);rintro _ _ ⟨rfl,hH⟩;obtain rfl:=hH.symm;refine AM ?_;iterate 2 refine AX ?_
   exact⟨rfl,zL rfl aH sX,rfl⟩
  have hh8:=hg8;try simp only[aM,cO]at hh8
  iterate 8 refine AX ?_
  exact⟨rfl,zL rfl aH sX,rfl⟩
 refine .sub [(15,_),(0,_),(3,_)] sX ?_;refine .cx rfl (λhc15=>?_) (λhc15=>?_)
 ·simp only[bL,aO]at hc15;iterate 10 refine AX ?_
  have hs:=acS (xs:=zs) (k:=i-1) aA;rw[show i-1+1=i by omega,aJ]at hs;refine Round.mk ⟨i-1,by omega,by rw[←hs,hr],rfl,rfl,rfl⟩ (zI rfl (zM rfl (by rw[show((i:Int)-1)=((i-1:Nat):Int) by omega]) yJ)) (hRa _) aA
 simp only[bX,aM]at hc15;iterate 13 refine AX ?_
 refine⟨?_,rfl⟩;have hq:i=yX (zs.take n):=by
  rcases bJ i with h0|h0
  ·subst h0;rw[←hr];rfl
  have hs:=acS (xs:=zs) (k:=i-1) aA;rw[show i-1+1=i by omega,aI,hr]at hs;exact hs.symm
 rw[←hq];rfl
theorem bsS(b n c:Nat)(zs:List Nat)(hz:Limbs zs)(hn:n≤zs.length)(hn2:n≤1000000)(hc:n≤c)(H:Heap)(hb:H.objs b=some (.box 166 (U .u32 zs))):ACall prog 311 [.mslice (some ⟨b,0,none⟩) n c] H (λy H'=>y= .mslice (some ⟨b,0,none⟩) (yX (zs.take n)) c∧H'=H):=by
 have hr:=aaU (zs.take n);have hrt:(zs.take n).length=n:=by simp;omega
 refine .of_body func311 rfl ntmps311 results311 rfl ?_;iterate 2 refine AX ?_
 refine AX ?_;iterate 6 refine AX ?_
 refine .cl rfl C314 (evs1 rfl) (bdN _ _ _ zs hz hn hn2 hc _ hb) (.p rfl (baK (_) U239 Z166 (tm rfl) (tm rfl) rfl aA) ?_);iterate 5 refine AX ?_
 exact⟨rfl,rfl⟩
end
section
open Go
def dgt(n:Nat):UInt8:=UInt8.ofNat (48+n)
def btP:Nat→Nat→List UInt8→List UInt8
 |0,_,acc=>acc
 |f+1,n,acc=>if n<10 then dgt n::acc else btP f (n/10) (dgt (n%10)::acc)
def dec(n:Nat):List UInt8:=btP (n+1) n []
theorem aoL:∀(f n:Nat)(acc:List UInt8),btP f n acc=btP f n []++acc
 |0,_,_=>rfl
 |f+1,n,acc=>by
  unfold btP;split
  ·rfl
  rw[aoL f (n/10) (dgt (n%10)::acc),aoL f (n/10) [dgt (n%10)],aQ];rfl
theorem bgG:∀(f g n:Nat),n<f→n<g→btP f n []=btP g n []
 |0,_,n,h,_=>absurd h (Nat.not_lt_zero n)
 |_+1,0,n,_,h=>absurd h (Nat.not_lt_zero n)
 |f+1,g+1,n,h1,h2=>by
  unfold btP;split
  ·rfl
  rw[aoL f,aoL g,bgG f g (n/10) aA aA]
theorem aoK(h:n<10):dec n=[dgt n]:=by
 unfold dec btP;rw[aN h]
theorem arD(h:10≤n):dec n=dec (n/10)++[dgt (n%10)]:=by
 unfold dec;rw[show btP (n+1) n []=btP n (n/10) [dgt (n%10)] by rw[btP,aI],aoL,bgG n (n/10+1) (n/10) aA aA]
theorem ckV(n:Nat):Lib.decDigits n=dec n:=by
 induction n using Nat.strongRecOn with
 |ind n ih=>
  unfold Lib.decDigits;split
  ·rename_i h;rw[aoK h];rfl
  rename_i h;rw[ih _ aA,arD (n:=n) aA];rfl
theorem cdH(n:Nat):Lib.itoa ((n:Nat):Int)=dec n:=by
 unfold Lib.itoa;rw[aI,dL,ckV]
theorem ckU(n:Nat):0<(dec n).length:=by
 rcases cG n 10 with h|h
 ·rw[aoK h];simp
 rw[arD h];simp
theorem ahX(hk:0<k):(dec n).length≤k↔n<10^k:=by
 induction k generalizing n with
 |zero=>omega
 |succ k ih=>
  rcases cG n 10 with h|h
  ·rw[aoK h];have:10^1≤10^(k+1):=aW aC aA;simp only[aX,bN];omega
  rw[arD h,aP,aX,bN];rcases bJ k with h0|h0
  ·subst h0;have:=ckU (n/10);rw[show(10:Nat)^(0+1)=10 by decide];omega
  rw[Nat.add_le_add_iff_right,ih h0,bQ,bR aC]
def pad:Nat→Nat→List UInt8
 |0,_=>[]
 |k+1,r=>pad k (r/10)++[dgt (r%10)]
theorem bzJ:∀(k:Nat),10^k≤n→dec n=dec (n/10^k)++pad k (n%10^k):=by
 intro k;induction k generalizing n with
 |zero=>intro _;rw[dI,gC,pad,bP]
 |succ k ih=>
  intro h;have hp:0<10^k:=bO aC;have h1:10^k≤n/10:=by rw[dJ aC,←bQ];exact h
  rw[arD aA,ih h1,bY,aQ,pad,bK 10,←bQ];congr 2
  ·congr 1
   rw[bQ,bK (10^k) 10,Nat.mod_mul_right_div_self]
  rw[bQ,bK (10^k) 10,Nat.mod_mul_right_mod]
theorem bmW:∀k:Nat,pad k 0=List.replicate k 48
 |0=>rfl
 |k+1=>by rw[pad,Nat.zero_div,bmW k,List.replicate_succ'];rfl
theorem ciP(hk:0<k)(h:r<10^k):pad k r=List.replicate (k-(dec r).length) 48++dec r:=by
 induction k generalizing r with
 |zero=>omega
 |succ k ih=>
  rcases cG r 10 with h1|h1
  ·rw[aoK h1,pad,show r/10=0 by omega,bmW,bE h1];simp
  have hk0:0<k:=by
   rcases bJ k with h0|h0
   ·subst h0;simp at h;omega
   exact h0
  rw[arD h1,pad,ih hk0 (by rw[bR aC,←bQ];exact h),aP,aQ];congr 2;simp only[aX,bN];omega
theorem ceH(h:0<v/1000000000):dec v=dec (v/1000000000)++(List.replicate (9-(dec (v%1000000000)).length) 48++dec (v%1000000000)):=by
 rw[←ciP aC (bU _ aC:v%1000000000<10^9)];exact bzJ 9 aA
theorem avG(h:n<BIG):(dec n).length≤2500:=
 (ahX aC).2 (bM h (by unfold BIG;decide+kernel))
end
end Go.Proofs.YtmmgbnolccpjoaaGreatDoor
