import Derived.Test.YteedncdcbgplfaaGreatDoorSsk
import Derived.Test.YteedncdcbgplfaaGreatDoorS6
namespace Go.Proofs.YteedncdcbgplfaaGreatDoor
open Go.Proofs.Tryz
variable{a b c i k n r v x:Nat}{xs ys zs:List Nat}
def Limbs(xs:List Nat):Prop:=∀x,x∈xs→x<4294967296
def val:List Nat→Nat
 | []=>0
 |x::xs=>x+4294967296*val xs
def qH:List Nat→Nat
 | []=>0
 |x::xs=>if qH xs=0∧x=0 then 0 else qH xs+1
def asS:Nat→Nat→List Nat
 |0,_=>[]
 |_+1,0=>[]
 |f+1,n+1=>(n+1)%4294967296::asS f ((n+1)/4294967296)
def zK(n:Nat):List Nat:=asS n n
theorem aqD:∀(f g n:Nat),n≤f→n≤g→asS f n=asS g n
 |0,0,_,_,_=>rfl
 |0,g+1,n,h,_=>by
  have:n=0:=by omega
  subst this;rfl
 |f+1,0,n,_,h=>by
  have:n=0:=by omega
  subst this;rfl
 |f+1,g+1,0,_,_=>rfl
 |f+1,g+1,n+1,h1,h2=>by
  unfold asS;rw[aqD f g ((n+1)/4294967296) aA aA]
theorem adG:zK 0=[]:=rfl
theorem abQ(h:0<n):zK n=n%4294967296::zK (n/4294967296):=by
 unfold zK;obtain⟨m,rfl⟩:∃m,n=m+1:=⟨n-1,by omega⟩;show(m+1)%4294967296::asS m ((m+1)/4294967296)=_;rw[aqD m ((m+1)/4294967296) ((m+1)/4294967296) aA (bB _)]
theorem zR(n:Nat):val (zK n)=n:=by
 induction n using Nat.strongRecOn with
 |ind n ih=>
  rcases bE n with h|h
  ·subst h;rfl
  rw[abQ h,val,ih _ aA];omega
theorem zL(n:Nat):Limbs (zK n):=by
 induction n using Nat.strongRecOn with
 |ind n ih=>
  rcases bE n with h|h
  ·subst h;intro x hx;simp[adG]at hx
  rw[abQ h];intro x hx;rcases dI.1 hx with rfl|hx
  ·omega
  exact ih _ aA x hx
theorem Limbs.cons{x:Nat}{xs:List Nat}(h:Limbs (x::xs)):x<4294967296∧Limbs xs:=⟨h x aF,λy hy=>h y (by simp[hy])⟩
theorem Limbs.mk(hx:x<4294967296)(h:Limbs xs):Limbs (x::xs):=λy hy=>by
 rcases dI.1 hy with rfl|hy
 ·exact hx
 exact h y hy
theorem Limbs.nil:Limbs []:=λ_ h=>by simp at h
theorem Limbs.append(h:Limbs xs)(k:Limbs ys):Limbs (xs++ys):=λy hy=>by
 rcases eA.1 hy with h1|h1
 ·exact h y h1
 exact k y h1
theorem Limbs.take(h:Limbs xs)(n:Nat):Limbs (xs.take n):=λy hy=>h y (fA hy)
theorem Limbs.drop(h:Limbs xs)(n:Nat):Limbs (xs.drop n):=λy hy=>h y (List.mem_of_mem_drop hy)
theorem Limbs.rep(h:x<4294967296):Limbs (List.replicate n x):=λy hy=>by rw[fC hy];exact h
theorem aaO:∀{xs:List Nat},qH xs=0→val xs=0
 | [],_=>rfl
 |x::xs,h=>by
  unfold qH at h;split at h
  ·rename_i hc;rw[val,aaO hc.1,hc.2]
  omega
theorem aaQ:∀{xs:List Nat},val xs=0→qH xs=0
 | [],_=>rfl
 |x::xs,h=>by
  rw[val]at h;unfold qH;rw[aN ⟨aaQ aA,by omega⟩]
theorem acV:∀{xs:List Nat},Limbs xs→xs.take (qH xs)=zK (val xs)
 | [],_=>rfl
 |x::xs,h=>by
  obtain⟨hx,hxs⟩:=h.cons;unfold qH;split
  ·rename_i hc
   rw[val,aaO hc.1,hc.2];rfl
  rename_i hc
  rw[eI,acV hxs];have hpos:0<val (x::xs):=by
   rw[val];rcases bE x with h0|h0
   ·rcases bE (val xs)with h1|h1
    ·exact absurd ⟨aaQ h1,h0⟩ hc
    omega
   omega
  rw[abQ hpos];simp only[val];rw[show(x+4294967296*val xs)%4294967296=x by omega,show(x+4294967296*val xs)/4294967296=val xs by omega]
theorem abD:∀(xs:List Nat),qH xs≤xs.length
 | []=>bB _
 |x::xs=>by
  unfold qH;have:=abD xs;split<;>simp<;>omega
theorem abL(h:Limbs xs):qH xs=(zK (val xs)).length:=by
 rw[←acV h,aU];have:=abD xs;omega
theorem aqC(n:Nat):qH (zK n)=(zK n).length:=by rw[abL (zL n),zR]
theorem acJ(hk:k<xs.length):qH (xs.take (k+1))=if xs.getD k 0=0 then qH (xs.take k)else k+1:=by
 induction xs generalizing k with
 |nil=>simp at hk
 |cons x xs ih=>
  cases k with
  |zero=>
   simp only[eI,dX,eJ];unfold qH;simp[qH]
  |succ k=>
   rw[eI,eI];have hk':k<xs.length:=by simpa using hk
   simp only[qH,ih hk',cL];by_cases h:xs.getD k 0=0
   ·rw[aN h,aN h]
   rw[aM h,aM h,aJ]
theorem aaI:∀(xs ys:List Nat),val (xs++ys)=val xs+4294967296^xs.length*val ys
 | [],ys=>by simp[val]
 |x::xs,ys=>by
  rw[fO,val,aaI xs ys,val,aX,bW,cB,←bT,bO (4294967296^xs.length) 4294967296];omega
theorem ahB:∀{xs:List Nat},Limbs xs→val xs<4294967296^xs.length
 | [],_=>by simp[val]
 |x::xs,h=>by
  obtain⟨hx,hxs⟩:=h.cons;have:=ahB hxs;rw[val,aX,bW];omega
theorem aiW(n:Nat):val (List.replicate n 0)=0:=by
 induction n with
 |zero=>rfl
 |succ n ih=>rw[eQ,val,ih]
theorem qT{n k:Nat}:(zK n).length≤k↔n<4294967296^k:=by
 induction k generalizing n with
 |zero=>
  rcases bE n with h|h
  ·subst h;simp[adG]
  rw[abQ h];simp;omega
 |succ k ih=>
  rcases bE n with h|h
  ·subst h;simp[adG];exact cJ aC
  rw[abQ h,aX,Nat.add_le_add_iff_right,ih,bW,eM aC]
theorem axZ(h:zK a=zK b):a=b:=by rw[←zR a,h,zR]
theorem atM(hk:k<xs.length):val (xs.take (k+1))=val (xs.take k)+4294967296^k*xs.getD k 0:=by
 rw[←bP hk,aaI];simp only[val,aU,dO,cM];rw[cQ aA];congr 2;rw[aS,aV hk];rfl
theorem Limbs.getD(h:Limbs xs)(k:Nat):xs.getD k 0<4294967296:=by
 rw[aS];cases hk:xs[k]? with
 |none=>simp
 |some x=>exact h x (eZ hk)
theorem copied(h:r≤xs.length):(zs.take 0++xs.take r++zs.drop (0+min xs.length r)).take r=xs.take r:=by
 rw[dX,cP,dU (by rw[aU];omega),List.take_take,Nat.min_self]
def BIG:Nat:=4294967296^256
section
open Go Go.RowKit
set_option maxRecDepth 100000
def qE(n:Nat):AV:=.slice 1 (U .u32 (zK n)) .shared
def bkS(xs:List Nat)(tl:Tail)(H:Heap):Nat→Env→Heap→Prop:=λk env H1=>∃n:Nat,n≤xs.length∧qH (xs.take n)=qH xs∧env=[(0,.slice 1 (U .u32 xs) tl),(3,.int .i64 (n:Int))]∧H=H1∧k=n
theorem acX(xs:List Nat)(tl:Tail)(_:Limbs xs)(hl:xs.length≤1000000)(H:Heap):ACall prog 240 [.slice 1 (U .u32 xs) tl] H (λy H'=>y= .int .i64 (qH xs:Int)∧H'=H):=by
 refine ACall.of_body func240 rfl ntmps240 results240 rfl ?_;refine .sr (.p rfl (zE zJ) (.nr (.mv rfl rfl (.p rfl (qC U159 (tm rfl)) (.as rfl rfl (.ng (.seq (.block ?_))))))));refine AWP.loopW (bkS xs tl H) (xs.length) ⟨xs.length,bB _,by rw[bY],rfl,rfl,rfl⟩ (zF rfl (zF rfl zW)) (hRa _) ?_;rintro _ _ _ ⟨n,hn,hr,rfl,rfl,hk⟩;refine .seq ?_;refine AWP.seqTo 15 (.bool (decide (0<(n:Int))&&decide (((xs.getD (n-1) 0:Nat):Int)=0))) [0,3] ?_ ?_
 ·refine .region (.mv rfl rfl (.p rfl (aaZ (tm rfl) zJ) (.mv rfl rfl ?_)));refine zC (t:=8) rfl (λhg8=>?_) (λhg8=>?_)
  ·have hh8:=hg8;try simp only[aW]at hh8
   refine .gp rfl rfl rfl aB (zB (tm rfl)) (.gp rfl rfl rfl aB (zB (tm rfl)) (.gp rfl rfl rfl aB (qY (tm rfl) zJ aA) (.gp rfl rfl rfl aB (yL (n-1) U159 Z210 (tm rfl) (tm rfl) aA aA) (.gp rfl rfl rfl aB (zX G210 (tm rfl)) (.gp rfl rfl rfl aB (aaJ (tm rfl) (yT 0)) (.p rfl (yE (tm rfl) aB (tm rfl)) (.nil ?_)))))));exact⟨rfl,zO rfl aI (zF rfl (zF rfl zW)),rfl⟩
  have hh8:=hg8;try simp only[aT,cF]at hh8
  refine .gn rfl rfl rfl aB (.gn rfl rfl rfl aB (.gn rfl rfl rfl aB (.gn rfl rfl rfl aB (.gn rfl rfl rfl aB (.gn rfl rfl rfl aB (.p rfl (yG (tm rfl) aB yA) (.nil ?_)))))));exact⟨rfl,zO rfl aI (zF rfl (zF rfl zW)),rfl⟩
 refine AWP.sub [(15,_),(0,_),(3,_)] (zF rfl (zF rfl (zF rfl zW))) ?_;refine AWP.cond (tm rfl) (λhc15=>?_) (λhc15=>?_)
 ·try simp only[aL]at hc15
  simp only[bD,aW]at hc15;refine .skip ?_;refine Next.go ?_;refine .block (.region (.mv rfl rfl (.p rfl (qY (tm rfl) zJ aA) (.as rfl rfl (.nil ?_)))));refine Block.go ?_;refine Next.go ?_;have hs:=acJ (xs:=xs) (k:=n-1) aA;rw[show n-1+1=n by omega,aK]at hs;refine Round.mk (J:=bkS xs tl H) ⟨n-1,by omega,by rw[←hs,hr],rfl,rfl,rfl⟩ (zF rfl (zU rfl (by rw[show((n:Int)-1)=((n-1:Nat):Int) by omega]) zW)) (hRa _) aA
 try simp only[aL]at hc15
 simp only[cA,aT]at hc15;refine .exit ?_;refine Next.ex ?_;refine Next.ex ?_;refine Block.hit ?_;refine Next.go ?_;refine .sr (.mv rfl rfl (.as rfl rfl (.ng (.ret ?_))));refine Ret.go (.cons (.tmp _ _ rfl) .nil) _ (hRa _) ?_;refine⟨?_,rfl⟩;have hq:n=qH xs:=by
  rcases bE n with h0|h0
  ·subst h0;rw[←hr];rfl
  have hs:=acJ (xs:=xs) (k:=n-1) aA;rw[show n-1+1=n by omega,aJ,hr]at hs;exact hs.symm
 rw[hq];rfl
theorem aaY(xs:List Nat)(tl:Tail)(hx:Limbs xs)(hl:xs.length≤1000000)(H:Heap):ACall prog 194 [.slice 1 (U .u32 xs) tl] H (λy H'=>y=qE (val xs)∧H'=H):=by
 have hr:=abD xs;refine ACall.of_body func194 rfl ntmps194 results194 rfl ?_;refine .sr ?_;refine .p rfl (zE (acC (sz:=1) (tl:=.full))) ?_;refine .nr (.mv rfl rfl (.mv rfl rfl (.cl rfl C240 (evs1 rfl) (acX _ _ aB aB _) (.p rfl (aeC (_) U159 Z210 (tm rfl) (tm rfl) rfl aA) (.as rfl rfl (.ng (.ret ?_)))))));refine Ret.go (.cons (.tmp _ _ rfl) .nil) _ (hRa _) ?_;refine⟨?_,rfl⟩;simp only[yY,qE];rw[acV hx]
theorem bcD(x y c:Nat)(hx:x<4294967296)(hy:y<4294967296)(hc:c≤1)(H:Heap):ACall prog 196 [.int .u32 (x:Int),.int .u32 (y:Int),.int .u32 (c:Int)] H (λz H'=>z= .tuple [.int .u32 ((x+y+c)%4294967296:Nat),.int .u32 ((x+y+c)/4294967296:Nat)]∧H'=H):=by
 refine ACall.of_body func196 rfl ntmps196 results196 rfl ?_;refine .sr (.p rfl (zE (yT 0)) (.p rfl (zE (yT 0)) (.nr (.mv rfl rfl (.p rfl (qL U210 U25 (tm rfl) (wrapN64 aA)) (.mv rfl rfl (.p rfl (qL U210 U25 (tm rfl) (wrapN64 aA)) (.p rfl (aaS (tm rfl) (tm rfl) aA) ?_))))))));refine .mv rfl rfl (.p rfl (qL U210 U25 (tm rfl) (wrapN64 aA)) (.p rfl (aaS (tm rfl) (tm rfl) aA) (.as rfl rfl (.nr (.mv rfl rfl (.p rfl (acL U25 U210 rfl (tm rfl)) (.as rfl rfl (.nr ?_))))))));refine .mv rfl rfl (.p rfl (adB (tm rfl) (yT 32) aA) (.p rfl (acL U25 U210 rfl (tm rfl)) (.as rfl rfl (.ng (.ret ?_)))));refine Ret.go (.cons (.tmp _ _ rfl) (.cons (.tmp _ _ rfl) .nil)) _ (hRa _) ?_;refine⟨?_,rfl⟩;simp only[yY,IntKind.bits];rw[show(x+y+c)/2^32%2^32=(x+y+c)/4294967296 by omega]
end
def aqQ(n:Nat):Nat:=if n=0 then 0 else n.log2+1
theorem ajO{n k:Nat}:aqQ n≤k↔n<2^k:=by
 unfold aqQ;split
 ·rename_i h;subst h;simp;exact cJ aC
 rename_i h
 rw[Nat.add_one_le_iff,Nat.log2_lt h]
theorem bwC:k<aqQ n↔2^k≤n:=by
 have:=@ajO n k;omega
theorem amG{m:Nat}(h:2^k≤n)(hm:m=n/2^k):aqQ n=k+aqQ m:=by
 subst hm;have hp:0<2^k:=cJ aC;have h1:0<n/2^k:=Nat.div_pos h hp;have key:∀j,aqQ n≤k+j↔aqQ (n/2^k)≤j:=λj=>by
  rw[ajO,ajO,eM hp,dN,bO]
 have ha:=(key (aqQ (n/2^k))).2 (bB _);have hk:k≤aqQ n:=eS (bwC.2 h);have hb:=(key (aqQ n-k)).1 aA;omega
theorem bxA(hx:x<4294967296):∃y n:Nat,(if 65536≤x then x/65536 else x)=y∧(if 65536≤x then(16:Int)else 0)=n∧y<65536∧aqQ x=n+aqQ y:=by
 by_cases h:65536≤x
 ·exact⟨x/65536,16,aN h,aN h,by omega,amG (k:=16) h rfl⟩
 exact⟨x,0,aM h,aM h,by omega,by omega⟩
theorem byY{y:Nat}(hy:y<65536):∃z m:Nat,(if 256≤y then y/256 else y)=z∧(if 256≤y then(n:Int)+8 else n)=m∧z<256∧n+aqQ y=m+aqQ z:=by
 by_cases h:256≤y
 ·exact⟨y/256,n+8,aN h,by rw[aN h];simp,by omega,by rw[amG (n:=y) (k:=8) (m:=y/256) h rfl];omega⟩
 exact⟨y,n,aM h,aM h,by omega,rfl⟩
def len8tab:List UInt8:=[0,1,2,2,3,3,3,3,4,4,4,4,4,4,4,4,5,5,5,5,5,5,5,5,5,5,5,5,5,5,5,5,6,6,6,6,6,6,6,6,6,6,6,6,6,6,6,6,6,6,6,6,6,6,6,6,6,6,6,6,6,6,6,6,7,7,7,7,7,7,7,7,7,7,7,7,7,7,7,7,7,7,7,7,7,7,7,7,7,7,7,7,7,7,7,7,7,7,7,7,7,7,7,7,7,7,7,7,7,7,7,7,7,7,7,7,7,7,7,7,7,7,7,7,7,7,7,7]++List.replicate 128 8
theorem bwF{z:Nat}(h:z<256):(len8tab.getD z 0).toNat=aqQ z:=by
 have key:∀z:Fin 256,(len8tab.getD z.1 0).toNat=aqQ z.1:=by decide+kernel
 exact key ⟨z,h⟩
theorem bhS(h:0<n):aqQ n=32*((zK n).length-1)+aqQ ((zK n).getD ((zK n).length-1) 0):=by
 induction n using Nat.strongRecOn with
 |ind n ih=>
  rw[abQ h];rcases bE (n/4294967296)with h0|h0
  ·rw[h0,adG];simp;congr 1;omega
  have:=ih _ aA h0;have hpos:0<(zK (n/4294967296)).length:=by rw[abQ h0];simp
  rw[amG (n:=n) (k:=32) aA rfl,show(2:Nat)^32=4294967296 by decide,this,aX,show(zK (n/4294967296)).length+1-1=((zK (n/4294967296)).length-1)+1 by omega,cL];omega
theorem afM(h:(zK a).length<(zK b).length):a<b:=by
 rcases bV a b with h1|h1
 ·exact h1
 have h2:(zK a).length≤(zK a).length:=bB _;rw[qT]at h2;have h3:=qT.2 (bI h1 h2);omega
theorem agI(hx:Limbs xs)(_:Limbs ys)(hl:xs.length=ys.length)(hk:k<xs.length)(hs:xs.drop (k+1)=ys.drop (k+1))(h:xs.getD k 0<ys.getD k 0):val xs<val ys:=by
 have e1:val xs=val (xs.take k)+4294967296^k*(xs.getD k 0+4294967296*val (xs.drop (k+1))):=by
  conv=>lhs;rw[←cO k xs,aaI,cK hk,val,aU,cQ aA]
  rw[aS,aV hk];rfl
 have hk':k<ys.length:=by omega
 have e2:val ys=val (ys.take k)+4294967296^k*(ys.getD k 0+4294967296*val (ys.drop (k+1))):=by
  conv=>lhs;rw[←cO k ys,aaI,cK hk',val,aU,cQ aA]
  rw[aS,aV hk'];rfl
 have h1:=ahB (hx.take k);rw[aU,cQ aA]at h1;rw[e1,e2,hs];generalize val (ys.drop (k+1))=z;have h2:4294967296^k*(xs.getD k 0+4294967296*z+1)≤4294967296^k*(ys.getD k 0+4294967296*z):=dV _ aA;rw[cB,eR]at h2;omega
section
open Go Go.RowKit
set_option maxRecDepth 100000
theorem bhY(xs:List Nat)(tl:Tail)(hx:Limbs xs)(hl:xs.length≤1000000)(H:Heap):ACall prog 171 [.slice 1 (U .u32 xs) tl] H (λy H'=>y=qE (val xs)∧H'=H):=by
 have hr:=abD xs;refine ACall.of_body func171 rfl ntmps171 results171 rfl ?_;refine .sr ?_;refine .p rfl (zE (acC (sz:=1) (tl:=.full))) ?_;refine .nr (.mv rfl rfl (.cl rfl C240 (evs1 rfl) (acX _ _ aB aB _) (.s rfl (qJ (_) U159 typeInfo210 Z210 V210 (tm rfl) (tm rfl) rfl rfl aC aA) ?_)));rintro _ _ ⟨b6,rfl,hb6,hH⟩;obtain rfl:=hH.symm;refine .as rfl rfl (.nr (.mv rfl rfl (.mv rfl rfl (.e rfl (alK U159 Z210 (tm rfl) (tm rfl) (oS _ _ _) (by(simp;done))) ?_))));try first|rw[sS]|rw[sU aB]
 refine .nr (.mv rfl rfl (.as rfl rfl (.ng ?_)));refine AWP.frzU (t:=2) rfl hb6 (by simp<;>omega) (bB _) (by simp only[zN];omega) ?_;refine .ret ?_;refine Ret.go (.cons (.tmp _ _ rfl) .nil) _ (hRa _) ?_;refine⟨?_,rfl⟩;simp only[yY,qE];rw[←acV hx,copied hr]
theorem bcB(x:Nat)(hx:x<4294967296)(H:Heap):ACall prog 281 [.int .u32 (x:Int)] H (λy H'=>y= .int .i64 (aqQ x:Int)∧H'=H):=by
 have hb32:∀z,z<256→aqQ z≤8:=λz hz=>ajO.2 hz;refine ACall.of_body func281 rfl ntmps281 results281 rfl ?_;refine .sr (.p rfl (zE zJ) (.ng ?_));refine AWP.seqToL [(0,.int .u32 ((if 65536≤x then x/65536 else x:Nat):Int)),(2,.int .i64 (if 65536≤x then 16 else 0))] [] ?_ ?_
 ·refine .sr (.mv rfl rfl (.p rfl (aeD (tm rfl) (yT 65536)) (.ng ?_)));refine AWP.cond (tm rfl) (λhc4=>?_) (λhc4=>?_)
  ·try simp only[aW]at hc4
   refine .sr (.mv rfl rfl (.p rfl (alX (tm rfl) (yT 16) aB) (.as rfl rfl (.ng (.region (.p rfl (zE zJ) (.nil ?_)))))));exact⟨rfl,(zU rfl (by rw[aK]) (zU rfl (by rw[aK]) zW)),rfl⟩
  try simp only[aT,Int.not_le]at hc4
  refine .skip ?_;exact⟨rfl,(zU rfl (by rw[aJ]) (zU rfl (by rw[aJ]) zW)),rfl⟩
 refine AWP.sub [(0,_),(2,_)] (zF rfl (zF rfl zW)) ?_;obtain⟨y,n,hy,hn,hyx,hbl⟩:=bxA hx;rw[hy,hn];refine AWP.seqToL [(0,.int .u32 ((if 256≤y then y/256 else y:Nat):Int)),(2,.int .i64 (if 256≤y then(n:Int)+8 else n))] [] ?_ ?_
 ·refine .sr (.mv rfl rfl (.p rfl (aeD (tm rfl) (yT 256)) (.ng ?_)));refine AWP.cond (tm rfl) (λhc8=>?_) (λhc8=>?_)
  ·try simp only[aW]at hc8
   refine .sr (.mv rfl rfl (.p rfl (alX (tm rfl) (yT 8) aA) (.as rfl rfl (.ng (.region (.mv rfl rfl (.p rfl (yU (tm rfl) zJ aA) (.as rfl rfl ?_))))))));refine .nil ?_;exact⟨rfl,(zU rfl (by rw[aK]) (zU rfl (by rw[aK]) zW)),rfl⟩
  try simp only[aT,Int.not_le]at hc8
  refine .skip ?_;exact⟨rfl,(zU rfl (by rw[aJ]) (zU rfl (by rw[aJ]) zW)),rfl⟩
 refine AWP.sub [(0,_),(2,_)] (zF rfl (zF rfl zW)) ?_;obtain⟨z,m,hz,hm,hzx,hbz⟩:=byY (n:=n) hyx;rw[hz,hm];have hz8:=hb32 z hzx;have hx32:=(ajO (n:=x) (k:=32)).2 hx;refine .sr (.mv rfl rfl (.mv rfl rfl (.p rfl (acL U210 U5 rfl (tm rfl)) ?_)));refine .p rfl (auQ (r:=aqQ z) len8tab U9 (zS rfl) (tm rfl) aD (by simp only[IntKind.bits];show _<256;omega) (by rw[show z%2^IntKind.u8.bits=z from bN hzx];exact bwF hzx)) ?_;refine .p rfl (qL U5 U3 (tm rfl) (wrapNI64 aA)) (.p rfl (yU (tm rfl) (tm rfl) aA) (.as rfl rfl (.ng (.ret ?_))));refine Ret.go (.cons (.tmp _ _ rfl) .nil) _ (hRa _) ?_;refine⟨?_,rfl⟩;rw[hbl,hbz];simp[yY]
end
theorem aiJ(h:xs.length≤i):xs.getD i 0=0:=by
 grind
theorem qF(xs:List Nat)(i:Nat):val (xs.take (i+1))=val (xs.take i)+4294967296^i*xs.getD i 0:=by
 rcases bV i xs.length with h|h
 ·exact atM h
 rw[aiJ h,aZ aA,aZ h];omega
theorem afG(h:i<zs.length):val ((zs.set i v).take (i+1))=val (zs.take i)+4294967296^i*v:=by
 rw[qF,List.take_set_of_le (bB _)];rw[aS,List.getElem?_set_self h];rfl
theorem Limbs.set(h:Limbs zs)(hv:v<4294967296):Limbs (zs.set i v):=λy hy=>by
 rcases List.mem_or_eq_of_mem_set hy with h1|h1
 ·exact h y h1
 rw[h1];exact hv
theorem apC(h:Limbs xs):256<qH xs↔BIG≤val xs:=by
 rw[abL h];have:=@qT (val xs) 256;unfold BIG;omega
theorem ayA{n:Nat}:256<(zK n).length↔BIG≤n:=by
 have:=@qT n 256;unfold BIG;omega
theorem brX(hi:i<zs.length)(h:val (zs.take i)+4294967296^i*c=val (xs.take i)+val (ys.take i)):
  val ((zs.set i ((xs.getD i 0+ys.getD i 0+c)%4294967296)).take (i+1))+4294967296^(i+1)*((xs.getD i 0+ys.getD i 0+c)/4294967296)=val (xs.take (i+1))+val (ys.take (i+1)):=by
 rw[afG hi,qF xs,qF ys,bW];generalize xs.getD i 0=x at *;generalize ys.getD i 0=y at *;generalize 4294967296^i=B at *;have e:B*((x+y+c)%4294967296)+B*4294967296*((x+y+c)/4294967296)=B*(x+y+c):=by
  rw[bT,←cB,Nat.mod_add_div]
 have e2:B*(x+y+c)=B*x+B*y+B*c:=by rw[cB,cB]
 omega
theorem bxD(hz:zs.length=n+1)(hx:xs.length=n)(hy:ys.length≤n)(h:val (zs.take n)+4294967296^n*c=val (xs.take n)+val (ys.take n)):val (zs.set n c)=val xs+val ys:=by
 have e:=afG (zs:=zs) (i:=n) (v:=c) aA;rw[aZ aG]at e;rw[e,h,aZ aA,aZ aA]
def aqW(a b:Nat):Int:=if a<b then-1 else if b<a then 1 else 0
theorem ayJ(hl:xs.length=ys.length)(hk:k<xs.length)(hs:xs.drop (k+1)=ys.drop (k+1))(he:xs.getD k 0=ys.getD k 0):xs.drop k=ys.drop k:=by
 rw[cK hk,cK (by omega:k<ys.length),hs];congr 1;rw[aS,aS,aV hk,aV (by omega:k<ys.length)]at he;simpa using he
section
open Go Go.RowKit
set_option maxRecDepth 100000
theorem aeG(v:Nat)(hv:v<18446744073709551616)(H:Heap):ACall prog 93 [.int .u64 (v:Int)] H (λy H'=>y=qE v∧H'=H):=by
 refine ACall.of_body func93 rfl ntmps93 results93 rfl ?_;refine .sr ?_;refine .p rfl (zE (acC (sz:=1) (tl:=.full))) ?_;refine .nr (.mv rfl rfl (.p rfl (acL U25 U210 rfl (tm rfl)) (.mv rfl rfl (.p rfl (adB (tm rfl) (yT 32) aB) (.p rfl (acL U25 U210 rfl (tm rfl)) (.e rfl (adK U159 Z210 V210 rfl (tm rfl) (.inl rfl) ⟨rfl,rfl⟩ (tm rfl) (.inl rfl) ⟨rfl,rfl⟩) ?_))))));refine .cl rfl call171 (evs1 rfl) (bhY [v%2^IntKind.u32.bits,v/2^32%2^IntKind.u32.bits] .full (Limbs.mk (by simp only[IntKind.bits];omega) (Limbs.mk (by simp only[IntKind.bits];omega) Limbs.nil)) aF _) ?_;refine .as rfl rfl (.ng (.ret ?_));refine Ret.go (.cons (.tmp _ _ rfl) .nil) _ (hRa _) ?_;refine⟨?_,rfl⟩;show qE _=_;congr 1;simp only[val,IntKind.bits];omega
theorem boK(xs:List Nat)(tl:Tail)(hx:Limbs xs)(hl:xs.length≤1000000)(H:Heap):ACall prog 241 [.slice 1 (U .u32 xs) tl] H (λy H'=>y= .int .i64 (aqQ (val xs):Int)∧H'=H):=by
 have hr:=abD xs;have hrl:=abL hx;refine ACall.of_body func241 rfl ntmps241 results241 rfl ?_;refine .sr (.p rfl (zE zJ) (.nr (.mv rfl rfl (.cl rfl C194 (evs1 rfl) (aaY _ _ aB aB _) (.as rfl rfl (.ng (.seq (.sr ?_))))))));refine .mv rfl rfl (.p rfl (qC U159 (tm rfl)) (.p rfl (aaJ (tm rfl) zJ) (.ng ?_)));refine AWP.cond (tm rfl) (λhc7=>?_) (λhc7=>?_)
 ·try simp only[aW]at hc7
  refine .sr (.p rfl (zE zJ) (.ng (.ret ?_)));refine Next.rt ?_;refine Ret.go (.cons (.tmp _ _ rfl) .nil) _ (hRa _) ?_;refine⟨?_,rfl⟩;have h0:val xs=0:=by
   rcases bE (val xs)with h|h
   ·exact h
   rw[abQ h]at hc7;simp at hc7;omega
  rw[h0];rfl
 try simp only[aT]at hc7
 have hpos:0<val xs:=by
  rcases bE (val xs)with h|h
  ·rw[h,adG]at hc7;exact absurd rfl hc7
  exact h
 have hbl:=bhS hpos;have hlb:=(ajO (n:=(zK (val xs)).getD ((zK (val xs)).length-1) 0) (k:=32)).2 (Limbs.getD (zL _) _);refine .skip ?_;refine Next.go ?_;refine .sr (.mv rfl rfl (.p rfl (qC U159 (tm rfl)) (.p rfl (qY (tm rfl) zJ aA) (.p rfl (anV zJ (tm rfl) aA) (.mv rfl rfl (.mv rfl rfl (.p rfl (qC U159 (tm rfl)) (.p rfl (qY (tm rfl) zJ aA) ?_))))))));refine .p rfl (yL ((zK (val xs)).length-1) U159 Z210 (tm rfl) (tm rfl) aA aA) (.p rfl (zX G210 (tm rfl)) (.cl rfl call281 (evs1 rfl) (bcB _ (Limbs.getD (zL _) _) _) (.p rfl (yU (tm rfl) (tm rfl) aA) (.as rfl rfl (.ng (.ret ?_))))));refine Ret.go (.cons (.tmp _ _ rfl) .nil) _ (hRa _) ?_;refine⟨?_,rfl⟩;simp only[yY];congr 1;omega
def byW(xs ys:List Nat)(H:Heap):Nat→Env→Heap→Prop:=λk env H1=>∃i:Nat,i≤xs.length∧xs.drop (xs.length-i)=ys.drop (xs.length-i)∧env=[(0,.slice 1 (U .u32 xs) .shared),(1,.slice 1 (U .u32 ys) .shared),(22,.int .i64 (xs.length:Int)),(23,.int .i64 (i:Int))]∧H=H1∧k=xs.length-i
theorem boL(xs:List Nat)(tl:Tail)(hx:Limbs xs)(hl:xs.length≤1000000)(ys:List Nat)(tl2:Tail)(hy:Limbs ys)(hm:ys.length≤1000000)(H:Heap):ACall prog 189 [.slice 1 (U .u32 xs) tl,.slice 1 (U .u32 ys) tl2] H (λy H'=>y= .int .i64 (aqW (val xs) (val ys))∧H'=H):=by
 have hr:=abD xs;have hrl:=abL hx;have hs:=abD ys;have hsl:=abL hy;refine ACall.of_body func189 rfl ntmps189 results189 rfl ?_;refine .sr (.p rfl (zE zJ) (.nr (.mv rfl rfl (.cl rfl C194 (evs1 rfl) (aaY _ _ aB aB _) (.mv rfl rfl (.cl rfl C194 (evs1 rfl) (aaY _ _ aB aB _) (.as rfl rfl (.as rfl rfl ?_))))))));refine .ng (.seq (.sr (.mv rfl rfl (.p rfl (qC U159 (tm rfl)) (.mv rfl rfl (.p rfl (qC U159 (tm rfl)) (.p rfl (aiD (tm rfl) (tm rfl)) (.ng ?_))))))));refine AWP.cond (tm rfl) (λhc15=>?_) (λhc15=>?_)
 ·try simp only[aW,ne_eq]at hc15
  refine .seq (.sr (.mv rfl rfl (.p rfl (qC U159 (tm rfl)) (.mv rfl rfl (.p rfl (qC U159 (tm rfl)) (.p rfl (aaL (tm rfl) (tm rfl)) (.ng ?_)))))));refine AWP.cond (tm rfl) (λhc20=>?_) (λhc20=>?_)
  ·try simp only[aW]at hc20
   refine .sr (.p rfl (zE zJ) (.ng (.ret ?_)));refine Next.rt ?_;refine Next.rt ?_;refine Ret.go (.cons (.tmp _ _ rfl) .nil) _ (hRa _) ?_;refine⟨?_,rfl⟩;rw[aqW,aN (afM aA)];rfl
  try simp only[aT,cF]at hc20
  refine .skip ?_;refine Next.go ?_;refine .sr (.p rfl (zE zJ) (.ng (.ret ?_)));refine Next.rt ?_;refine Ret.go (.cons (.tmp _ _ rfl) .nil) _ (hRa _) ?_;refine⟨?_,rfl⟩;have:=afM (a:=val ys) (b:=val xs) aA;rw[aqW,aJ,aN this];rfl
 try simp only[aT,ne_eq,Decidable.not_not]at hc15
 have hLx:=zL (val xs);have hLy:=zL (val ys);have hvx:=zR (val xs);have hvy:=zR (val ys);have hlen:(zK (val xs)).length=(zK (val ys)).length:=by omega
 refine .skip ?_;refine Next.go ?_;refine .seq (.sr (.mv rfl rfl (.p rfl (qC U159 (tm rfl)) (.p rfl (zB zJ) (.ng (.block ?_))))));refine AWP.loopW (byW (zK (val xs)) (zK (val ys)) H) ((zK (val xs)).length) ⟨0,Nat.zero_le _,by rw[Nat.sub_zero,dL,hlen,dL],rfl,rfl,rfl⟩ (zF rfl (zF rfl (zF rfl (zF rfl zW)))) (hRa _) ?_;rintro _ _ _ ⟨i,hi,hd,rfl,rfl,rfl⟩;refine .sr (.p rfl (aaL (tm rfl) (tm rfl)) (.ng (.seq ?_)));refine AWP.cond (tm rfl) (λhc24=>?_) (λhc24=>?_)
 ·try simp only[aW]at hc24
  have hds:(zK (val xs)).drop ((zK (val xs)).length-1-i+1)=(zK (val ys)).drop ((zK (val xs)).length-1-i+1):=by rw[show(zK (val xs)).length-1-i+1=(zK (val xs)).length-i by omega];exact hd
  refine .skip ?_;refine Next.go ?_;refine .seq (.block (.sr (.mv rfl rfl (.as rfl rfl (.nr (.mv rfl rfl (.p rfl (qC U159 (tm rfl)) (.p rfl (qY (tm rfl) zJ aA) ?_))))))));refine .mv rfl rfl (.p rfl (qY (tm rfl) (tm rfl) aA) (.as rfl rfl (.ng (.block (.seq ?_)))));refine AWP.draw [(0,true),(1,true),(2,true),(3,true),(4,true),(5,true),(6,true),(7,true),(8,true),(9,true)] rfl aE ?_;refine .p rfl rfl (zB (tm rfl)) (.p rfl rfl (zB (tm rfl)) (.p rfl rfl (yL ((zK (val xs)).length-1-i) U159 Z210 (tm rfl) (tm rfl) aA aA) (.p rfl rfl (zX G210 (tm rfl)) (.p rfl rfl (zB (tm rfl)) (.p rfl rfl (zB (tm rfl)) (.p rfl rfl (yL ((zK (val xs)).length-1-i) U159 Z210 (tm rfl) (tm rfl) aA aA) (.p rfl rfl (zX G210 (tm rfl)) (.p rfl rfl (aaL (tm rfl) (tm rfl)) ?_))))))));refine .p rfl rfl (zE (tm rfl)) (.nil ?_);refine Next.go ?_;refine AWP.cond (tm rfl) (λhc31=>?_) (λhc31=>?_)
  ·try simp only[aW]at hc31
   refine .sr (.p rfl (zE zJ) (.ng (.ret ?_)));refine Block.rt ?_;refine Block.rt ?_;refine Next.rt ?_;refine Next.rt ?_;refine Block.rt ?_;refine Next.rt ?_;refine Ret.go (.cons (.tmp _ _ rfl) .nil) _ (hRa _) ?_;refine⟨?_,rfl⟩;have:=agI hLx hLy hlen (k:=(zK (val xs)).length-1-i) aA hds aA;rw[hvx,hvy]at this;rw[aqW,aK];rfl
  try simp only[aT,cF]at hc31
  refine .seq ?_;refine AWP.draw [(0,true),(1,true),(2,true),(3,true),(4,true),(5,true),(6,true),(7,true),(8,true),(9,true)] rfl aE ?_;refine .p rfl rfl (zB (tm rfl)) (.p rfl rfl (zB (tm rfl)) (.p rfl rfl (yL ((zK (val xs)).length-1-i) U159 Z210 (tm rfl) (tm rfl) aA aA) (.p rfl rfl (zX G210 (tm rfl)) (.p rfl rfl (zB (tm rfl)) (.p rfl rfl (zB (tm rfl)) (.p rfl rfl (yL ((zK (val xs)).length-1-i) U159 Z210 (tm rfl) (tm rfl) aA aA) (.p rfl rfl (zX G210 (tm rfl)) (.p rfl rfl (aaZ (tm rfl) (tm rfl)) ?_))))))));refine .p rfl rfl (zE (tm rfl)) (.nil ?_);refine Next.go ?_;refine AWP.cond (tm rfl) (λhc41=>?_) (λhc41=>?_)
  ·try simp only[aW]at hc41
   refine .sr (.p rfl (zE zJ) (.ng (.ret ?_)));refine Block.rt ?_;refine Block.rt ?_;refine Next.rt ?_;refine Next.rt ?_;refine Block.rt ?_;refine Next.rt ?_;refine Ret.go (.cons (.tmp _ _ rfl) .nil) _ (hRa _) ?_;refine⟨?_,rfl⟩;have:=agI hLy hLx hlen.symm (k:=(zK (val xs)).length-1-i) aA hds.symm aA;rw[hvx,hvy]at this;rw[aqW,aJ,aK];rfl
  try simp only[aT,cF]at hc41
  refine .skip ?_;refine Block.go ?_;refine Block.go ?_;refine Next.go ?_;refine .region (.p rfl (yU (tm rfl) zJ aA) (.mv rfl rfl (.ng ?_)));refine Round.mk (J:=byW (zK (val xs)) (zK (val ys)) H) ⟨i+1,by omega,by rw[show(zK (val xs)).length-(i+1)=(zK (val xs)).length-1-i by omega];exact ayJ hlen aA hds aA,rfl,rfl,rfl⟩ (zF rfl (zF rfl (zF rfl (zF rfl zW)))) (hRa _) aA
 try simp only[aT,cF]at hc24
 refine .exit ?_;refine Next.ex ?_;refine Next.ex ?_;refine Block.hit ?_;refine Next.go ?_;refine .sr (.p rfl (zE zJ) (.ng (.ret ?_)));refine Ret.go (.cons (.tmp _ _ rfl) .nil) _ (hRa _) ?_;refine⟨?_,rfl⟩;have h0:(zK (val xs)).length-i=0:=by omega
 have hxy:zK (val xs)=zK (val ys):=by rw[h0]at hd;simpa using hd
 rw[axZ hxy,aqW,aM (Nat.lt_irrefl _),aM (Nat.lt_irrefl _)];rfl
end
theorem boM:∀k,k=32*256→BIG=2^k:=by intro k hk;unfold BIG;rw[show(4294967296:Nat)=2^32 by decide,←eX,hk]
theorem blS(h:a<2^k):(b*2^k)|||a=b*2^k+a:=by
 rw[bO,Nat.two_pow_add_eq_or_of_lt h]
theorem blR(h:a<2^k):a|||(b*2^k)=a+b*2^k:=by
 rw[Nat.or_comm,blS h,Nat.add_comm]
theorem atN(h:i<zs.length):val (zs.set i v)+4294967296^i*zs.getD i 0=val zs+4294967296^i*v:=by
 induction zs generalizing i with
 |nil=>simp at h
 |cons z zs ih=>
  cases i with
  |zero=>simp[val];omega
  |succ i=>
   have:=ih (i:=i) (by simpa using h);rw[List.set_cons_succ,val,val,cL,bW];generalize 4294967296^i=B at *;generalize zs.getD i 0=x at *;have e1:B*4294967296*x=4294967296*(B*x):=by rw[bO B,bT]
   have e2:B*4294967296*v=4294967296*(B*v):=by rw[bO B,bT]
   rw[e1,e2];omega
theorem getD_set_ne{j:Nat}(h:i≠j):(zs.set i v).getD j 0=zs.getD j 0:=by
 grind
theorem beE(n j:Nat):(List.replicate n 0).getD j 0=0:=by
 grind
theorem bdW{y o:Nat}(hx:x<4294967296)(hy:y<4294967296)(ho:o<4294967296)(hc:c<4294967296):x*y+o+c<18446744073709551616:=by
 have:x*y≤4294967295*4294967295:=eU aA aA;omega
theorem bdV{o0:List Nat}(hi:i+k<zs.length)(h:val zs+4294967296^(i+k)*c=val o0+4294967296^i*xs.getD i 0*val (ys.take k)):
  val (zs.set (i+k) ((xs.getD i 0*ys.getD k 0+zs.getD (i+k) 0+c)%4294967296))+4294967296^(i+(k+1))*((xs.getD i 0*ys.getD k 0+zs.getD (i+k) 0+c)/4294967296)=val o0+4294967296^i*xs.getD i 0*val (ys.take (k+1)):=by
 have e:=atN (zs:=zs) (i:=i+k) (v:=(xs.getD i 0*ys.getD k 0+zs.getD (i+k) 0+c)%4294967296) hi;rw[qF ys,←eF,bW];rw[dN]at *;generalize xs.getD i 0=x at *;generalize ys.getD k 0=y at *;generalize zs.getD (i+k) 0=o at *;generalize 4294967296^i=A at *;generalize 4294967296^k=B at *;generalize val (ys.take k)=w at *;generalize val (zs.set (i+k) ((x*y+o+c)%4294967296))=u at *;have e3:A*B*((x*y+o+c)%4294967296)+A*B*4294967296*((x*y+o+c)/4294967296)=A*B*(x*y+o+c):=by
  rw[bT (A*B),←cB,Nat.mod_add_div]
 have e4:A*B*(x*y+o+c)=A*x*(B*y)+A*B*o+A*B*c:=by
  rw[cB,cB];congr 2;rw[bT,bT,Nat.mul_left_comm B x y]
 rw[cB];omega
theorem bmF{o0:List Nat}{m:Nat}(hm:ys.length=m)(hi:i+m<zs.length)(hz:zs.getD (i+m) 0=0)(h0:val o0=val (xs.take i)*val ys)(h:val zs+4294967296^(i+m)*c=val o0+4294967296^i*xs.getD i 0*val (ys.take m)):
  val (zs.set (i+m) c)=val (xs.take (i+1))*val ys:=by
 have e:=atN (zs:=zs) (i:=i+m) (v:=c) hi;rw[hz,dO,cM]at e;have ey:ys.take m=ys:=aZ aA;rw[e,h,h0,ey,qF,cC]
theorem bfI{ws:List Nat}{s:Nat}(hi:i<ws.length)(hs:s≤32)(hx:xs.getD i 0<4294967296)(hc:c<2^s)(h:val (ws.take i)+4294967296^i*c=val (xs.take i)*2^s):
  val ((ws.set i ((c+xs.getD i 0*2^s)%4294967296)).take (i+1))+4294967296^(i+1)*((c+xs.getD i 0*2^s)/4294967296)=val (xs.take (i+1))*2^s∧(c+xs.getD i 0*2^s)/4294967296<2^s∧c+xs.getD i 0*2^s<18446744073709551616:=by
 refine⟨?_,?_,?_⟩
 ·rw[afG hi,qF xs,bW,cC,←h];generalize xs.getD i 0=x at *;generalize 4294967296^i=B at *;generalize 2^s=S at *;have e3:B*((c+x*S)%4294967296)+B*4294967296*((c+x*S)/4294967296)=B*(c+x*S):=by
   rw[bT B,←cB,Nat.mod_add_div]
  rw[cB,←bT]at e3;omega
 ·rw[eM aC];have:xs.getD i 0*2^s≤4294967295*2^s:=bG _ aA;omega
 have h1:xs.getD i 0*2^s≤4294967295*2^s:=bG _ aA;have h2:2^s≤2^32:=bS aC hs;omega
theorem bpC{ws:List Nat}(hL:Limbs ws)(hn:ws.length=n)(h:val (ws.take n)+4294967296^n*c=v):val ws=v%4294967296^n:=by
 have:=ahB hL;rw[hn]at this;rw[aZ aA]at h;rw[←h,dE,bN this]
theorem arV{z0:List Nat}{d:Nat}(_:0<d)(hk:k<zs.length)(hl:zs.length=z0.length)(_:zs.getD k 0=z0.getD k 0)(h:val (zs.drop (k+1))*d+r=val (z0.drop (k+1))):
  val ((zs.set k ((r*4294967296+z0.getD k 0)/d)).drop k)*d+(r*4294967296+z0.getD k 0)%d=val (z0.drop k):=by
 have hk0:k<z0.length:=by omega
 have e1:(zs.set k ((r*4294967296+z0.getD k 0)/d)).drop k=(r*4294967296+z0.getD k 0)/d::zs.drop (k+1):=by
  rw[cK (by simpa using hk),List.getElem_set_self,List.drop_set_of_lt aA]
 have e2:z0.drop k=z0.getD k 0::z0.drop (k+1):=by
  rw[cK hk0,aS,aV hk0];rfl
 rw[e1,e2,val,val,←h];generalize z0.getD k 0=x;generalize val (zs.drop (k+1))=w;have e3:=dJ (r*4294967296+x) d;generalize(r*4294967296+x)/d=q at *;generalize(r*4294967296+x)%d=m at *;rw[cC,bO q d,bT,cB 4294967296 (w*d) r];omega
theorem arW{d:Nat}(hr:r<d)(hx:x<4294967296)(hd:d<4294967296):(r*4294967296+x)/d<4294967296∧r*4294967296+x<18446744073709551616:=by
 refine⟨?_,by omega⟩;rw[eM aA];have:(r+1)*4294967296≤d*4294967296:=bG _ hr;omega
section
open Go Go.RowKit
set_option maxRecDepth 100000
def btJ(p:Prop)[Decidable p](v:Nat):AV:=.tuple [qE (if p then v else 0),.int .i64 (if p then 0 else 2)]
theorem asB{p:Prop}[Decidable p](h:p):btJ p v= .tuple [qE v,.int .i64 0]:=by unfold btJ;rw[aN h,aN h]
theorem axC{p:Prop}[Decidable p](h:¬p):btJ p v= .tuple [qE 0,.int .i64 2]:=by unfold btJ;rw[aM h,aM h]
theorem bfR{p q:Prop}[Decidable p][Decidable q](h:p↔q):btJ p v=btJ q v:=by
 by_cases hp:p
 ·rw[asB hp,asB (h.1 hp)]
 rw[axC hp,axC (λhq=>hp (h.2 hq))]
def btZ(v:Nat):AV:=btJ (v<BIG) v
def bzG(a b:Nat):AV:=btJ (a<BIG∧b<BIG∧a*b<BIG) (a*b)
def bzJ(p:List Nat×Tail):AV:=.slice 1 (U .u32 p.1) p.2
def boV(p:List Nat×Tail):Bool:=decide (256<qH p.1)
theorem bpE{α:Type}{l:List α}{q:α→Bool}(hi:i<l.length)(h:(l.take i).any q=false)(hq:q l[i]=false):(l.take (i+1)).any q=false:=by
 rw[←bP hi,List.any_append,h];simp[hq]
theorem bwK{α:Type}{l:List α}{q:α→Bool}(hi:i<l.length)(hq:q l[i]=true):l.any q=true:=by
 rw[List.any_eq_true];exact⟨l[i],bM hi,hq⟩
def btR(l:List (List Nat×Tail))(tl:Tail)(H:Heap):Nat→Env→Heap→Prop:=λk env H1=>∃i:Nat,i≤l.length∧(l.take i).any boV=false∧env=[(0,.slice 1 (l.map bzJ) tl),(5,.slice 1 (l.map bzJ) tl),(6,.int .i64 (l.length:Int)),(7,.int .i64 (i:Int))]∧H=H1∧k=l.length-i
theorem asM(l:List (List Nat×Tail))(tl:Tail)(hx:∀p,p∈l→Limbs p.1)(hl:∀p,p∈l→p.1.length≤1000000)(hL:l.length≤1000)(H:Heap):ACall prog 193 [.slice 1 (l.map bzJ) tl] H (λy H'=>y= .bool (l.any boV)∧H'=H):=by
 refine ACall.of_body func193 rfl ntmps193 results193 rfl ?_;refine .sr (.p rfl (zE yA) (.ng (.seq (.sr (.mv rfl rfl (.p rfl (akF U314 (tm rfl)) (.p rfl (zB zJ) (.ng ?_))))))));refine .block ?_;refine AWP.loopW (btR l tl H) (l.length) ⟨0,Nat.zero_le _,rfl,rfl,rfl,rfl⟩ (zF rfl (zF rfl (zF rfl (zF rfl zW)))) (hRa _) ?_;rintro _ _ _ ⟨i,hi,hany,rfl,rfl,hk⟩;refine .sr (.p rfl (aaL (tm rfl) (tm rfl)) (.ng (.seq ?_)));refine AWP.cond (tm rfl) (λhc8=>?_) (λhc8=>?_)
 ·try simp only[aW]at hc8
  have hi2:i<l.length:=by omega
  refine .skip ?_;refine Next.go ?_;refine .seq (.block (.sr (.p rfl (agM U314 Z159 (tm rfl) (tm rfl) aA aA) (.p rfl (zX isAgg159 (tm rfl)) (.as rfl rfl (.nr (.mv rfl rfl (.cl rfl C240 (evs1 rfl) (acX l[i].1 l[i].2 (hx _ (bM hi2)) (hl _ (bM hi2)) _) ?_))))))));refine .p rfl (aaZ (tm rfl) zJ) (.ng ?_);refine AWP.cond (tm rfl) (λhc13=>?_) (λhc13=>?_)
  ·try simp only[aW]at hc13
   have hb:boV l[i]=true:=by unfold boV;simp only[aW];omega
   refine .sr (.p rfl (zE yA) (.ng (.ret ?_)));refine Block.rt ?_;refine Next.rt ?_;refine Next.rt ?_;refine Block.rt ?_;refine Next.rt ?_;refine Ret.go (.cons (.tmp _ _ rfl) .nil) _ (hRa _) ?_;refine⟨?_,rfl⟩;rw[bwK hi2 hb];rfl
  try simp only[aT,cF]at hc13
  have hb:boV l[i]=false:=by unfold boV;simp only[aT];omega
  refine .skip ?_;refine Block.go ?_;refine Next.go ?_;refine .region (.p rfl (yU (tm rfl) zJ aA) (.mv rfl rfl (.ng ?_)));refine Round.mk (J:=btR l tl H) ⟨i+1,by omega,bpE hi2 hany hb,rfl,rfl,rfl⟩ (zF rfl (zF rfl (zF rfl (zF rfl zW)))) (hRa _) aA
 try simp only[aT,cF]at hc8
 refine .exit ?_;refine Next.ex ?_;refine Next.ex ?_;refine Block.hit ?_;refine Next.go ?_;refine .sr (.p rfl (zE yA) (.ng (.ret ?_)));refine Ret.go (.cons (.tmp _ _ rfl) .nil) _ (hRa _) ?_;refine⟨?_,rfl⟩;rw[aZ aA]at hany;rw[hany];rfl
theorem atC(xs:List Nat)(tl:Tail)(hx:Limbs xs)(hl:xs.length≤1000000)(H:Heap):ACall prog 195 [.slice 1 (U .u32 xs) tl] H (λy H'=>y=btZ (val xs)∧H'=H):=by
 have hb:=@ayA (val xs);have hr:=abD xs;have hrl:=abL hx;refine ACall.of_body func195 rfl ntmps195 results195 rfl ?_;refine .sr ?_;refine .p rfl (zE (acC (sz:=1) (tl:=.shared))) ?_;refine .p rfl (zE zJ) (.ng (.seq (.sr (.mv rfl rfl (.cl rfl C194 (evs1 rfl) (aaY _ _ aB aB _) (.as rfl rfl (.nr (.mv rfl rfl ?_))))))));refine .p rfl (qC U159 (tm rfl)) (.p rfl (aaZ (tm rfl) zJ) (.ng ?_));refine AWP.cond (tm rfl) (λhc8=>?_) (λhc8=>?_)
 ·try simp only[aW]at hc8
  refine .sr ?_;refine .p rfl (zE (acC (sz:=1) (tl:=.shared))) ?_;refine .p rfl (zE zJ) (.ng (.ret ?_));refine Next.rt ?_;refine Ret.go (.cons (.tmp _ _ rfl) (.cons (.tmp _ _ rfl) .nil)) _ (hRa _) ?_;refine⟨?_,rfl⟩;rw[btZ,axC aA];rfl
 try simp only[aT,cF]at hc8
 refine .skip ?_;refine Next.go ?_;refine .sr (.mv rfl rfl (.as rfl rfl (.p rfl (zE zJ) (.ng (.ret ?_)))));refine Ret.go (.cons (.tmp _ _ rfl) (.cons (.tmp _ _ rfl) .nil)) _ (hRa _) ?_;refine⟨?_,rfl⟩;rw[btZ,asB aA];rfl
theorem buQ{tl tl2:Tail}(hx:Limbs xs)(hy:Limbs ys):[(xs,tl),(ys,tl2)].any boV=decide (BIG≤val xs∨BIG≤val ys):=by
 have h1:=apC hx;have h2:=apC hy;have e:∀a b:Prop,∀[Decidable a][Decidable b],(decide a||decide b)=decide (a∨b):=by intro a b _ _;by_cases a<;>by_cases b<;>simp_all
 simp only[List.any_cons,List.any_nil,Bool.or_false,boV,h1,h2,e]
theorem bvO{tl:Tail}(hx:Limbs xs):[(xs,tl)].any boV=decide (BIG≤val xs):=by
 have h1:=apC hx;simp only[List.any_cons,List.any_nil,Bool.or_false,boV,h1]
theorem apY(xs:List Nat)(tl tl3:Tail)(hx:Limbs xs)(hl:xs.length≤1000000):Fn 193 [.slice 1 [.slice 1 (U .u32 xs) tl] tl3] (.bool (decide (BIG≤val xs))):=by
 intro H;rw[←bvO (tl:=tl) hx];exact asM [(xs,tl)] tl3 (by simpa using hx) (by simpa using hl) aF H
theorem ajH(xs:List Nat)(tl:Tail)(hx:Limbs xs)(hl:xs.length≤1000000)(ys:List Nat)(tl2 tl3:Tail)(hy:Limbs ys)(hm:ys.length≤1000000):Fn 193 [.slice 1 [.slice 1 (U .u32 xs) tl,.slice 1 (U .u32 ys) tl2] tl3] (.bool (decide (BIG≤val xs∨BIG≤val ys))):=by
 intro H;rw[←buQ (tl:=tl) (tl2:=tl2) hx hy];refine asM [(xs,tl),(ys,tl2)] tl3 ?_ ?_ aF H
 ·intro p hp;rcases dI.1 hp with rfl|hp
  ·exact hx
  rcases dI.1 hp with rfl|hp
  ·exact hy
  simp at hp
 intro p hp;rcases dI.1 hp with rfl|hp
 ·exact hl
 rcases dI.1 hp with rfl|hp
 ·exact hm
 simp at hp
end
section
open Go Go.RowKit
set_option maxRecDepth 100000
def hiN(a b:Nat):Nat:=if(zK a).length<(zK b).length then b else a
def loN(a b:Nat):Nat:=if(zK a).length<(zK b).length then a else b
theorem bzL(a b:Nat):hiN a b+loN a b=a+b∧(zK (loN a b)).length≤(zK (hiN a b)).length:=by
 unfold hiN loN;split<;>omega
theorem yM(h:n<BIG):(zK n).length≤256:=by
 have:=@ayA n;omega
theorem bzK(ha:a<BIG)(hb:b<BIG):hiN a b<BIG:=by unfold hiN;split<;>assumption
def bzD(P Q:Nat)(b:Nat)(H:Heap):Nat→Env→Heap→Prop:=λk env H1=>∃(i c:Nat)(zs:List Nat),i≤(zK P).length∧zs.length=(zK P).length+1∧Limbs zs∧c≤1∧val (zs.take i)+4294967296^i*c=val ((zK P).take i)+val ((zK Q).take i)∧env=[(0,qE P),(1,qE Q),(6,.mslice (some ⟨b,0,none⟩) ((zK P).length+1) ((zK P).length+1)),(7,.int .u32 (c:Int)),(30,.int .i64 ((zK P).length:Int)),(31,.int .i64 (i:Int))]∧H1=H.set b (.box 210 (U .u32 zs))∧k=(zK P).length-i
theorem azH(xs:List Nat)(tl:Tail)(hx:Limbs xs)(hl:xs.length≤1000000)(ys:List Nat)(tl2:Tail)(hy:Limbs ys)(hm:ys.length≤1000000)(H:Heap):ACall prog 107 [.slice 1 (U .u32 xs) tl,.slice 1 (U .u32 ys) tl2] H (λy H'=>y=btZ (val xs+val ys)∧H'=H):=by
 refine ACall.of_body func107 rfl ntmps107 results107 rfl ?_;refine .sr ?_;refine .p rfl (zE (acC (sz:=1) (tl:=.shared))) ?_;refine .p rfl (zE zJ) (.ng (.seq (.sr (.mv rfl rfl (.mv rfl rfl (.e rfl (adK U314 Z159 V159 rfl (tm rfl) (.inl rfl) ⟨rfl,rfl⟩ (tm rfl) (.inl rfl) ⟨rfl,rfl⟩) (.cl rfl C193 (evs1 rfl) (ajH _ _ aB aB _ _ _ aB aB _) (.ng ?_))))))));refine AWP.cond (tm rfl) (λhc13=>?_) (λhc13=>?_)
 ·try simp only[aW]at hc13
  refine .sr ?_;refine .p rfl (zE (acC (sz:=1) (tl:=.shared))) ?_;refine .p rfl (zE zJ) (.ng (.ret ?_));refine Next.rt ?_;refine Ret.go (.cons (.tmp _ _ rfl) (.cons (.tmp _ _ rfl) .nil)) _ (hRa _) ?_;refine⟨?_,rfl⟩;rw[btZ,axC aA];rfl
 try simp only[aT]at hc13
 refine .skip ?_;refine Next.go ?_;refine .sr (.mv rfl rfl (.cl rfl C194 (evs1 rfl) (aaY _ _ aB aB _) (.mv rfl rfl (.cl rfl C194 (evs1 rfl) (aaY _ _ aB aB _) (.as rfl rfl (.as rfl rfl (.ng ?_)))))));refine AWP.seqToL [(0,qE (hiN (val xs) (val ys))),(1,qE (loN (val xs) (val ys)))] [4,5] ?_ ?_
 ·refine .sr (.mv rfl rfl (.p rfl (qC U159 (tm rfl)) (.mv rfl rfl (.p rfl (qC U159 (tm rfl)) (.p rfl (aaL (tm rfl) (tm rfl)) (.ng ?_))))));refine AWP.cond (tm rfl) (λhc22=>?_) (λhc22=>?_)
  ·try simp only[aW]at hc22
   refine .region (.mv rfl rfl (.mv rfl rfl (.as rfl rfl (.as rfl rfl (.nil ?_)))));exact⟨rfl,(zU rfl (by simp only[hiN];split<;>first|rfl|omega) (zU rfl (by simp only[loN];split<;>first|rfl|omega) (zF rfl (zF rfl zW)))),rfl⟩
  try simp only[aT,cF]at hc22
  refine .skip ?_;exact⟨rfl,(zU rfl (by simp only[hiN];split<;>first|rfl|omega) (zU rfl (by simp only[loN];split<;>first|rfl|omega) (zF rfl (zF rfl zW)))),rfl⟩
 refine AWP.sub [(0,_),(1,_),(4,_),(5,_)] (zF rfl (zF rfl (zF rfl (zF rfl zW)))) ?_;have hs:=bzL (val xs) (val ys);have h256:=yM (bzK (a:=val xs) (b:=val ys) aA aA)
 revert hs h256
 generalize hiN (val xs) (val ys)=P;generalize loN (val xs) (val ys)=Q;intro hs h256;refine .sr (.mv rfl rfl (.p rfl (qC U159 (tm rfl)) (.p rfl (yU (tm rfl) zJ aA) (.s rfl (qJ ((zK P).length+1) U159 typeInfo210 Z210 V210 (tm rfl) (tm rfl) aA aA aC aA) ?_))));rintro _ _ ⟨b28,rfl,hb28,hH⟩;obtain rfl:=hH.symm;refine .as rfl rfl (.nr (.p rfl (zE (yT 0)) (.ng (.seq (.sr (.mv rfl rfl (.p rfl (qC U159 (tm rfl)) (.p rfl (zB zJ) ?_))))))));refine .ng (.block ?_);refine AWP.loopW (bzD P Q b28 H) ((zK P).length) ⟨0,0,List.replicate ((zK P).length+1) 0,Nat.zero_le _,by simp,Limbs.rep aA,by omega,rfl,rfl,rfl,rfl⟩ (zF rfl (zF rfl (zF rfl (zF rfl (zF rfl (zF rfl zW)))))) (hRa _) ?_;rintro _ _ _ ⟨i,c,zs,hi,hz,hzl,hc,hv,rfl,rfl,hk⟩;refine .sr (.p rfl (aaL (tm rfl) (tm rfl)) (.ng (.seq ?_)));refine AWP.cond (tm rfl) (λhc32=>?_) (λhc32=>?_)
 ·try simp only[aW]at hc32
  refine .skip ?_;refine Next.go ?_;refine .seq (.block (.sr (.mv rfl rfl (.as rfl rfl (.nr (.p rfl (zE (yT 0)) (.ng ?_)))))));refine AWP.seqToL [(9,.int .u32 (((zK Q).getD i 0:Nat):Int))] [0,1,6,7,30,31,8] ?_ ?_
  ·refine .sr (.mv rfl rfl (.mv rfl rfl (.p rfl (qC U159 (tm rfl)) (.p rfl (aaL (tm rfl) (tm rfl)) (.ng ?_)))));refine AWP.cond (tm rfl) (λhc37=>?_) (λhc37=>?_)
   ·try simp only[aW]at hc37
    refine .region (.mv rfl rfl (.mv rfl rfl (.p rfl (yL (i) U159 Z210 (tm rfl) (tm rfl) aA aA) (.p rfl (zX G210 (tm rfl)) (.as rfl rfl (.nil ?_))))));exact⟨rfl,(zU rfl aD (zF rfl (zF rfl (zF rfl (zF rfl (zF rfl (zF rfl (zF rfl zW)))))))),rfl⟩
   try simp only[aT,cF]at hc37
   refine .skip ?_;exact⟨rfl,(zU rfl (by(rw[aiJ aA])) (zF rfl (zF rfl (zF rfl (zF rfl (zF rfl (zF rfl (zF rfl zW)))))))),rfl⟩
  refine AWP.sub [(9,_),(0,_),(1,_),(6,_),(7,_),(30,_),(31,_),(8,_)] (zF rfl (zF rfl (zF rfl (zF rfl (zF rfl (zF rfl (zF rfl (zF rfl zW)))))))) ?_;refine .region (.mv rfl rfl (.mv rfl rfl (.mv rfl rfl (.mv rfl rfl (.p rfl (yL (i) U159 Z210 (tm rfl) (tm rfl) aA aA) (.p rfl (zX G210 (tm rfl)) (.mv rfl rfl (.mv rfl rfl ?_))))))));refine .cl rfl call196 (evs3 rfl rfl rfl) (bcD _ _ _ (Limbs.getD (zL _) _) (Limbs.getD (zL _) _) aA _) (.mv rfl rfl (.p rfl (yB (tm rfl) rfl) (.p rfl (yB (tm rfl) rfl) (.p rfl (yR (i) U159 Z210 (tm rfl) (tm rfl) aA aA) (.e0 (qS Z210 (tm rfl) (tm rfl) (oS _ _ _) aA) ?_)))));try first|rw[sS]|rw[sU aB]
  refine .as rfl rfl (.nil ?_);refine Block.go ?_;refine Next.go ?_;refine .region (.p rfl (yU (tm rfl) zJ aA) (.mv rfl rfl (.ng ?_)));refine Round.mk (J:=bzD P Q b28 H) ⟨i+1,_,_,by omega,by simpa using hz,Limbs.set hzl aA,by have h1:=Limbs.getD (zL P) i;have h2:=Limbs.getD (zL Q) i;omega,brX aA hv,rfl,rfl,rfl⟩ (zF rfl (zF rfl (zF rfl (zF rfl (zF rfl (zF rfl zW)))))) (hRa _) aA
 try simp only[aT,cF]at hc32
 refine .exit ?_;refine Next.ex ?_;refine Next.ex ?_;refine Block.hit ?_;refine Next.go ?_;refine .sr (.mv rfl rfl (.mv rfl rfl (.p rfl (qC U159 (tm rfl)) (.mv rfl rfl (.p rfl (yR ((zK P).length) U159 Z210 (tm rfl) (tm rfl) aA aA) (.e0 (qS Z210 (tm rfl) (tm rfl) (oS _ _ _) aA) ?_))))));try first|rw[sS]|rw[sU aB]
 refine .ng (.seq ?_);have hi2:i=(zK P).length:=by omega
 subst hi2;have hz2:zs.length≤(zK P).length+1:=by omega
 have hz3:(zK P).length<zs.length:=by omega
 have hv2:=bxD hz rfl hs.2 hv;rw[zR,zR]at hv2;refine AWP.frzU (t:=6) rfl hb28 (by simp<;>omega) (bB _) (by simp only[zN];omega) ?_;rw[aZ (by simp<;>omega)];have hz4:=Limbs.set hzl (i:=(zK P).length) (v:=c) aA;have hz5:(zs.set (zK P).length c).length≤1000000:=by simp<;>omega
 refine .region (.mv rfl rfl (.cl rfl call195 (evs1 rfl) (atC _ _ aB aB _) (.p rfl (yB (tm rfl) rfl) (.p rfl (yB (tm rfl) rfl) (.as rfl rfl (.as rfl rfl (.ng (.ret ?_))))))));refine Ret.go (.cons (.tmp _ _ rfl) (.cons (.tmp _ _ rfl) .nil)) _ (hRa _) ?_;refine⟨?_,rfl⟩;rw[←hs.1,←hv2];rfl
theorem anT(h:∀j,n≤j→zs.getD j 0=0)(hi:i<n):∀j,n≤j→(zs.set i v).getD j 0=0:=λj hj=>by
 rw[getD_set_ne aA,h j hj]
def byK(P Q:Nat)(b:Nat)(H:Heap):Nat→Env→Heap→Prop:=λk env H1=>∃(i:Nat)(zs:List Nat),i≤(zK P).length∧zs.length=(zK P).length+(zK Q).length∧Limbs zs∧(∀j,i+(zK Q).length≤j→zs.getD j 0=0)∧val zs=val ((zK P).take i)*val (zK Q)∧env=[(0,qE P),(1,qE Q),(6,.mslice (some ⟨b,0,none⟩) ((zK P).length+(zK Q).length) ((zK P).length+(zK Q).length)),(26,.int .i64 ((zK P).length:Int)),(27,.int .i64 (i:Int))]∧H1=H.set b (.box 210 (U .u32 zs))∧k=(zK P).length-i
def btT(P Q:Nat)(b i:Nat)(o0:List Nat)(H:Heap):Nat→Env→Heap→Prop:=λk env H1=>∃(j c:Nat)(zs:List Nat),j≤(zK Q).length∧zs.length=(zK P).length+(zK Q).length∧Limbs zs∧c<4294967296∧(∀j,i+(zK Q).length≤j→zs.getD j 0=0)∧val zs+4294967296^(i+j)*c=val o0+4294967296^i*(zK P).getD i 0*val ((zK Q).take j)∧env=[(0,qE P),(1,qE Q),(6,.mslice (some ⟨b,0,none⟩) ((zK P).length+(zK Q).length) ((zK P).length+(zK Q).length)),(26,.int .i64 ((zK P).length:Int)),(27,.int .i64 (i:Int)),(7,.int .i64 (i:Int)),(8,.int .u64 (c:Int)),(31,.int .i64 ((zK Q).length:Int)),(32,.int .i64 (j:Int))]∧H1=H.set b (.box 210 (U .u32 zs))∧k=(zK Q).length-j
theorem boJ(xs:List Nat)(tl:Tail)(hx:Limbs xs)(hl:xs.length≤1000000)(ys:List Nat)(tl2:Tail)(hy:Limbs ys)(hm:ys.length≤1000000)(H:Heap):ACall prog 106 [.slice 1 (U .u32 xs) tl,.slice 1 (U .u32 ys) tl2] H (λy H'=>y=bzG (val xs) (val ys)∧H'=H):=by
 refine ACall.of_body func106 rfl ntmps106 results106 rfl ?_;refine .sr ?_;refine .p rfl (zE (acC (sz:=1) (tl:=.shared))) ?_;refine .p rfl (zE zJ) (.ng (.seq (.sr (.mv rfl rfl (.mv rfl rfl (.e rfl (adK U314 Z159 V159 rfl (tm rfl) (.inl rfl) ⟨rfl,rfl⟩ (tm rfl) (.inl rfl) ⟨rfl,rfl⟩) (.cl rfl C193 (evs1 rfl) (ajH _ _ aB aB _ _ _ aB aB _) (.ng ?_))))))));refine AWP.cond (tm rfl) (λhc14=>?_) (λhc14=>?_)
 ·try simp only[aW]at hc14
  refine .sr ?_;refine .p rfl (zE (acC (sz:=1) (tl:=.shared))) ?_;refine .p rfl (zE zJ) (.ng (.ret ?_));refine Next.rt ?_;refine Ret.go (.cons (.tmp _ _ rfl) (.cons (.tmp _ _ rfl) .nil)) _ (hRa _) ?_;refine⟨?_,rfl⟩;rw[bzG,axC aA];rfl
 try simp only[aT]at hc14
 refine .skip ?_;refine Next.go ?_;refine .sr (.mv rfl rfl (.cl rfl C194 (evs1 rfl) (aaY _ _ aB aB _) (.mv rfl rfl (.cl rfl C194 (evs1 rfl) (aaY _ _ aB aB _) (.as rfl rfl (.as rfl rfl (.ng (.seq ?_))))))));have h256:=yM (n:=val xs) aA;have h257:=yM (n:=val ys) aA;have hmul:bzG (val xs) (val ys)=btZ (val xs*val ys):=by
  exact bfR ⟨λh=>h.2.2,λh=>⟨by omega,by omega,h⟩⟩
 rw[hmul];generalize val xs=P at *;generalize val ys=Q at *;refine .region (.mv rfl rfl (.p rfl (qC U159 (tm rfl)) (.mv rfl rfl (.p rfl (qC U159 (tm rfl)) (.p rfl (yU (tm rfl) (tm rfl) aA) (.s rfl (qJ ((zK P).length+(zK Q).length) U159 typeInfo210 Z210 V210 (tm rfl) (tm rfl) aA aA aC aA) ?_))))));rintro _ _ ⟨b24,rfl,hb24,hH⟩;obtain rfl:=hH.symm;refine .as rfl rfl (.ng (.seq (.sr (.mv rfl rfl (.p rfl (qC U159 (tm rfl)) (.p rfl (zB zJ) (.ng (.block ?_))))))));refine AWP.loopW (byK P Q b24 H) ((zK P).length) ⟨0,List.replicate _ 0,Nat.zero_le _,by simp,Limbs.rep aA,λj _=>beE _ _,by rw[aiW,dX,val,cU],rfl,rfl,rfl⟩ (zF rfl (zF rfl (zF rfl (zF rfl (zF rfl zW))))) (hRa _) ?_;rintro _ _ _ ⟨i,zs0,hi,hz0,hzl0,h0,hv0,rfl,rfl,hk⟩;refine .sr (.p rfl (aaL (tm rfl) (tm rfl)) (.ng (.seq ?_)));refine AWP.cond (tm rfl) (λhc28=>?_) (λhc28=>?_)
 ·try simp only[aW]at hc28
  refine .skip ?_;refine Next.go ?_;refine .seq (.block (.sr (.mv rfl rfl (.as rfl rfl (.nr (.p rfl (zE (yT 0)) (.ng (.seq ?_))))))));refine .sr (.mv rfl rfl (.p rfl (qC U159 (tm rfl)) (.p rfl (zB zJ) (.ng (.block ?_)))));refine AWP.loopW (btT P Q b24 i zs0 H) ((zK Q).length) ⟨0,0,zs0,Nat.zero_le _,hz0,hzl0,by omega,h0,by rw[dX,val,dO,dO],rfl,rfl,rfl⟩ (zF rfl (zF rfl (zF rfl (zF rfl (zF rfl (zF rfl (zF rfl (zF rfl (zF rfl zW))))))))) (hRa _) ?_;rintro _ _ _ ⟨j,c,zs,hj,hz,hzl,hc,hzr,hv,rfl,rfl,hk2⟩;refine .sr (.p rfl (aaL (tm rfl) (tm rfl)) (.ng (.seq ?_)));refine AWP.cond (tm rfl) (λhc33=>?_) (λhc33=>?_)
  ·try simp only[aW]at hc33
   have hPi:=Limbs.getD (zL P) i;have hQj:=Limbs.getD (zL Q) j;have hZ:=Limbs.getD hzl (i+j);have hmf:=bdW hPi hQj hZ hc;refine .skip ?_;refine Next.go ?_;refine .seq (.block (.sr (.mv rfl rfl (.as rfl rfl (.ng (.seq ?_))))));refine AWP.draw [(0,true),(1,true),(2,true),(3,true),(4,true),(5,true),(6,true),(7,true),(8,true),(9,true),(10,true),(11,true),(12,true),(13,true),(14,true),(15,true),(19,true),(16,false),(17,true),(18,true),(20,true),(21,true)] rfl aE ?_;refine .p rfl rfl (zB (tm rfl)) (.p rfl rfl (zB (tm rfl)) (.p rfl rfl (yL (i) U159 Z210 (tm rfl) (tm rfl) aA aA) (.p rfl rfl (zX G210 (tm rfl)) (.p rfl rfl (qL U210 U25 (tm rfl) (wrapN64 aA)) (.p rfl rfl (zB (tm rfl)) (.p rfl rfl (zB (tm rfl)) (.p rfl rfl (yL (j) U159 Z210 (tm rfl) (tm rfl) aA aA) (.p rfl rfl (zX G210 (tm rfl)) ?_))))))));refine .p rfl rfl (qL U210 U25 (tm rfl) (wrapN64 aA)) (.p rfl rfl (ajF (tm rfl) (tm rfl) aA) (.p rfl rfl (zB (tm rfl)) (.p rfl rfl (zB (tm rfl)) (.p rfl rfl (zB (tm rfl)) (.p rfl rfl (yU (tm rfl) (tm rfl) aA) (.p rfl rfl (yR (i+j) U159 Z210 (tm rfl) (tm rfl) aA aA) (.p rfl rfl (zB (tm rfl)) (.s rfl rfl (aaP G210 (tm rfl) (oS _ _ _) aA) ?_))))))));rintro _ _ ⟨rfl,hH⟩;obtain rfl:=hH.symm;refine .p rfl rfl (qL U210 U25 (tm rfl) (wrapN64 aA)) (.p rfl rfl (aaS (tm rfl) (tm rfl) aA) (.p rfl rfl (aaS (tm rfl) (tm rfl) aB) (.p rfl rfl (zE (tm rfl)) (.nil ?_))));refine Next.go ?_;refine .region (.mv rfl rfl (.mv rfl rfl (.mv rfl rfl (.p rfl (yU (tm rfl) (tm rfl) aA) (.mv rfl rfl (.p rfl (acL U25 U210 rfl (tm rfl)) (.mv rfl rfl (.p rfl (adB (tm rfl) (yT 32) aB) ?_))))))));refine .p rfl (yR (i+j) U159 Z210 (tm rfl) (tm rfl) aA aA) (.e0 (qS Z210 (tm rfl) (tm rfl) (oS _ _ _) aA) ?_);try first|rw[sS]|rw[sU aB]
   refine .as rfl rfl (.nil ?_);refine Block.go ?_;refine Next.go ?_;refine .region (.p rfl (yU (tm rfl) zJ aA) (.mv rfl rfl (.ng ?_)));refine Round.mk (J:=btT P Q b24 i zs0 H) ⟨j+1,_,_,by omega,by simpa using hz,Limbs.set hzl aA,by omega,λq hq=>anT hzr aA q hq,bdV aA hv,rfl,rfl,rfl⟩ (zF rfl (zF rfl (zF rfl (zF rfl (zF rfl (zF rfl (zF rfl (zF rfl (zF rfl zW))))))))) (hRa _) aA
  try simp only[aT,cF]at hc33
  have hj2:j=(zK Q).length:=by omega
  subst hj2;have hcm:c%2^IntKind.u32.bits=c:=bN hc;refine .exit ?_;refine Next.ex ?_;refine Next.ex ?_;refine Block.hit ?_;refine Next.go ?_;refine .region (.mv rfl rfl (.mv rfl rfl (.mv rfl rfl (.p rfl (qC U159 (tm rfl)) (.p rfl (yU (tm rfl) (tm rfl) aA) (.mv rfl rfl (.p rfl (acL U25 U210 rfl (tm rfl)) (.p rfl (yR (i+(zK Q).length) U159 Z210 (tm rfl) (tm rfl) aA aA) ?_))))))));refine .e0 (qS Z210 (tm rfl) (tm rfl) (oS _ _ _) aA) ?_;try first|rw[sS]|rw[sU aB]
  refine .nil ?_;refine Block.go ?_;refine Next.go ?_;refine .region (.p rfl (yU (tm rfl) zJ aA) (.mv rfl rfl (.ng ?_)));rw[hcm];refine Round.mk (J:=byK P Q b24 H) ⟨i+1,_,by omega,by simpa using hz,Limbs.set hzl hc,λj hj=>anT (n:=i+1+(zK Q).length) (λj hj=>hzr j aA) aA j hj,bmF rfl aA (hzr _ (bB _)) hv0 hv,rfl,rfl,rfl⟩ (zF rfl (zF rfl (zF rfl (zF rfl (zF rfl zW))))) (hRa _) aA
 try simp only[aT,cF]at hc28
 refine .exit ?_;refine Next.ex ?_;refine Next.ex ?_;refine Block.hit ?_;refine Next.go ?_;refine .seq ?_;have hi2:i=(zK P).length:=by omega
 subst hi2;rw[bY,zR,zR]at hv0;refine AWP.frzU (t:=6) rfl hb24 aA (bB _) (by simp only[zN];omega) ?_;rw[aZ aA];have hz5:zs0.length≤1000000:=by omega
 refine .region (.mv rfl rfl (.cl rfl call195 (evs1 rfl) (atC _ _ aB aB _) (.p rfl (yB (tm rfl) rfl) (.p rfl (yB (tm rfl) rfl) (.as rfl rfl (.as rfl rfl (.ng (.ret ?_))))))));refine Ret.go (.cons (.tmp _ _ rfl) (.cons (.tmp _ _ rfl) .nil)) _ (hRa _) ?_;refine⟨?_,rfl⟩;rw[←hv0];rfl
end
end Go.Proofs.YteedncdcbgplfaaGreatDoor
