import Derived.Test.YteedncdcbgplfaaGreatDoorSsk
import Derived.Test.YteedncdcbgplfaaGreatDoorS6
namespace Go.Proofs.YteedncdcbgplfaaGreatDoor
open Go.Proofs.Tryz
variable{a b c i k n r v x:Nat}{xs ys zs:List Nat}
def Limbs(xs:List Nat):Prop:=∀x,x∈xs→x<4294967296
def val:List Nat→Nat
 | []=>0
 |x::xs=>x+4294967296*val xs
def qG:List Nat→Nat
 | []=>0
 |x::xs=>if qG xs=0∧x=0 then 0 else qG xs+1
def avX:Nat→Nat→List Nat
 |0,_=>[]
 |_+1,0=>[]
 |f+1,n+1=>(n+1)%4294967296::avX f ((n+1)/4294967296)
def zF(n:Nat):List Nat:=avX n n
theorem asG:∀(f g n:Nat),n≤f→n≤g→avX f n=avX g n
 |0,0,_,_,_=>rfl
 |0,g+1,n,h,_=>by
  have:n=0:=by omega
  subst this;rfl
 |f+1,0,n,_,h=>by
  have:n=0:=by omega
  subst this;rfl
 |f+1,g+1,0,_,_=>rfl
 |f+1,g+1,n+1,h1,h2=>by
  unfold avX;rw[asG f g ((n+1)/4294967296) aA aA]
theorem aaU:zF 0=[]:=rfl
theorem qV(h:0<n):zF n=n%4294967296::zF (n/4294967296):=by
 unfold zF;obtain⟨m,rfl⟩:∃m,n=m+1:=⟨n-1,by omega⟩;show(m+1)%4294967296::avX m ((m+1)/4294967296)=_;rw[asG m ((m+1)/4294967296) ((m+1)/4294967296) aA (aZ _)]
theorem zN(n:Nat):val (zF n)=n:=by
 induction n using Nat.strongRecOn with
 |ind n ih=>
  rcases bF n with h|h
  ·subst h;rfl
  rw[qV h,val,ih _ aA];omega
theorem zH(n:Nat):Limbs (zF n):=by
 induction n using Nat.strongRecOn with
 |ind n ih=>
  rcases bF n with h|h
  ·subst h;intro x hx;simp[aaU]at hx
  rw[qV h];intro x hx;rcases dG.1 hx with rfl|hx
  ·omega
  exact ih _ aA x hx
theorem Limbs.cons{x:Nat}{xs:List Nat}(h:Limbs (x::xs)):x<4294967296∧Limbs xs:=⟨h x aF,λy hy=>h y (by simp[hy])⟩
theorem Limbs.mk(hx:x<4294967296)(h:Limbs xs):Limbs (x::xs):=λy hy=>by
 rcases dG.1 hy with rfl|hy
 ·exact hx
 exact h y hy
theorem Limbs.nil:Limbs []:=λ_ h=>by simp at h
theorem Limbs.append(h:Limbs xs)(k:Limbs ys):Limbs (xs++ys):=λy hy=>by
 rcases cN.1 hy with h1|h1
 ·exact h y h1
 exact k y h1
theorem Limbs.take(h:Limbs xs)(n:Nat):Limbs (xs.take n):=λy hy=>h y (fQ hy)
theorem Limbs.drop(h:Limbs xs)(n:Nat):Limbs (xs.drop n):=λy hy=>h y (gD hy)
theorem Limbs.rep(h:x<4294967296):Limbs (List.replicate n x):=λy hy=>by rw[fO hy];exact h
theorem aaK:∀{xs:List Nat},qG xs=0→val xs=0
 | [],_=>rfl
 |x::xs,h=>by
  unfold qG at h;split at h
  ·rename_i hc;rw[val,aaK hc.1,hc.2]
  omega
theorem aaL:∀{xs:List Nat},val xs=0→qG xs=0
 | [],_=>rfl
 |x::xs,h=>by
  rw[val]at h;unfold qG;rw[aN ⟨aaL aA,by omega⟩]
theorem adJ:∀{xs:List Nat},Limbs xs→xs.take (qG xs)=zF (val xs)
 | [],_=>rfl
 |x::xs,h=>by
  obtain⟨hx,hxs⟩:=h.cons;unfold qG;split
  ·rename_i hc
   rw[val,aaK hc.1,hc.2];rfl
  rename_i hc
  rw[fI,adJ hxs];have hpos:0<val (x::xs):=by
   rw[val];rcases bF x with h0|h0
   ·rcases bF (val xs)with h1|h1
    ·exact absurd ⟨aaL h1,h0⟩ hc
    omega
   omega
  rw[qV hpos];simp only[val];rw[show(x+4294967296*val xs)%4294967296=x by omega,show(x+4294967296*val xs)/4294967296=val xs by omega]
theorem aaR:∀(xs:List Nat),qG xs≤xs.length
 | []=>aZ _
 |x::xs=>by
  unfold qG;have:=aaR xs;split<;>simp<;>omega
theorem abD(h:Limbs xs):qG xs=(zF (val xs)).length:=by
 rw[←adJ h,aV];have:=aaR xs;omega
theorem aiF(n:Nat):qG (zF n)=(zF n).length:=by rw[abD (zH n),zN]
theorem acC(hk:k<xs.length):qG (xs.take (k+1))=if xs.getD k 0=0 then qG (xs.take k)else k+1:=by
 induction xs generalizing k with
 |nil=>simp at hk
 |cons x xs ih=>
  cases k with
  |zero=>
   simp only[fI,fH,eP];unfold qG;simp[qG]
  |succ k=>
   rw[fI,fI];have hk':k<xs.length:=by simpa using hk
   simp only[qG,ih hk',dF];by_cases h:xs.getD k 0=0
   ·rw[aN h,aN h]
   rw[aM h,aM h,aJ]
theorem qW:∀(xs ys:List Nat),val (xs++ys)=val xs+4294967296^xs.length*val ys
 | [],ys=>by simp[val]
 |x::xs,ys=>by
  rw[eE,val,qW xs ys,val,aW,bP,cB,←bJ,bM (4294967296^xs.length) 4294967296];omega
theorem aeO:∀{xs:List Nat},Limbs xs→val xs<4294967296^xs.length
 | [],_=>by simp[val]
 |x::xs,h=>by
  obtain⟨hx,hxs⟩:=h.cons;have:=aeO hxs;rw[val,aW,bP];omega
theorem alD(n:Nat):val (List.replicate n 0)=0:=by
 induction n with
 |zero=>rfl
 |succ n ih=>rw[eY,val,ih]
theorem qH{n k:Nat}:(zF n).length≤k↔n<4294967296^k:=by
 induction k generalizing n with
 |zero=>
  rcases bF n with h|h
  ·subst h;simp[aaU]
  rw[qV h];simp;omega
 |succ k ih=>
  rcases bF n with h|h
  ·subst h;simp[aaU];exact bL aC
  rw[qV h,aW,Nat.add_le_add_iff_right,ih,bP,bW aC]
theorem bcC(h:zF a=zF b):a=b:=by rw[←zN a,h,zN]
theorem awW(hk:k<xs.length):val (xs.take (k+1))=val (xs.take k)+4294967296^k*xs.getD k 0:=by
 rw[←cI hk,qW];simp only[val,aV,dJ,cA];rw[cZ aA];congr 2;rw[aP,aX hk];rfl
theorem Limbs.getD(h:Limbs xs)(k:Nat):xs.getD k 0<4294967296:=by
 rw[aP];cases hk:xs[k]? with
 |none=>simp
 |some x=>exact h x (fP hk)
theorem copied(h:r≤xs.length):(zs.take 0++xs.take r++zs.drop (0+min xs.length r)).take r=xs.take r:=by
 rw[fH,cH,dU (by rw[aV];omega),List.take_take,Nat.min_self]
def BIG:Nat:=4294967296^256
section
open Go Go.RowKit
set_option maxRecDepth 100000
def qX(n:Nat):AV:=.slice 1 (U .u32 (zF n)) .shared
def bsH(xs:List Nat)(tl:Tail)(H:Heap):Nat→Env→Heap→Prop:=λk env H1=>∃n:Nat,n≤xs.length∧qG (xs.take n)=qG xs∧env=[(0,.slice 1 (U .u32 xs) tl),(3,.int .i64 (n:Int))]∧H=H1∧k=n
theorem acP(xs:List Nat)(tl:Tail)(_:Limbs xs)(hl:xs.length≤1000000)(H:Heap):ACall prog 240 [.slice 1 (U .u32 xs) tl] H (λy H'=>y= .int .i64 (qG xs:Int)∧H'=H):=by
 refine ACall.of_body func240 rfl ntmps240 results240 rfl ?_;refine .sr (.p rfl (zE zJ) (.nr (.mv rfl rfl (.p rfl (qB U159 (tm rfl)) (.as rfl rfl (.ng (.seq (.block ?_))))))));refine AWP.loopW (bsH xs tl H) (xs.length) ⟨xs.length,aZ _,by rw[cX],rfl,rfl,rfl⟩ (zK rfl (zK rfl yF)) (hRa _) ?_;rintro _ _ _ ⟨n,hn,hr,rfl,rfl,hk⟩;refine .seq ?_;refine AWP.seqTo 15 (.bool (decide (0<(n:Int))&&decide (((xs.getD (n-1) 0:Nat):Int)=0))) [0,3] ?_ ?_
 ·refine .region (.mv rfl rfl (.p rfl (abH (tm rfl) zJ) (.mv rfl rfl ?_)));refine zD (t:=8) rfl (λhg8=>?_) (λhg8=>?_)
  ·have hh8:=hg8;try simp only[aT]at hh8
   refine .gp rfl rfl rfl aB (zG (tm rfl)) (.gp rfl rfl rfl aB (zG (tm rfl)) (.gp rfl rfl rfl aB (qK (tm rfl) zJ aA) (.gp rfl rfl rfl aB (zV (n-1) U159 Z210 (tm rfl) (tm rfl) aA aA) (.gp rfl rfl rfl aB (zW G210 (tm rfl)) (.gp rfl rfl rfl aB (acE (tm rfl) (yB 0)) (.p rfl (yI (tm rfl) aB (tm rfl)) (.nil ?_)))))));exact⟨rfl,zS rfl aI (zK rfl (zK rfl yF)),rfl⟩
  have hh8:=hg8;try simp only[aR,cU]at hh8
  refine .gn rfl rfl rfl aB (.gn rfl rfl rfl aB (.gn rfl rfl rfl aB (.gn rfl rfl rfl aB (.gn rfl rfl rfl aB (.gn rfl rfl rfl aB (.p rfl (yR (tm rfl) aB zT) (.nil ?_)))))));exact⟨rfl,zS rfl aI (zK rfl (zK rfl yF)),rfl⟩
 refine AWP.sub [(15,_),(0,_),(3,_)] (zK rfl (zK rfl (zK rfl yF))) ?_;refine AWP.cond (tm rfl) (λhc15=>?_) (λhc15=>?_)
 ·try simp only[aL]at hc15
  simp only[bN,aT]at hc15;refine .skip ?_;refine Next.go ?_;refine .block (.region (.mv rfl rfl (.p rfl (qK (tm rfl) zJ aA) (.as rfl rfl (.nil ?_)))));refine Block.go ?_;refine Next.go ?_;have hs:=acC (xs:=xs) (k:=n-1) aA;rw[show n-1+1=n by omega,aK]at hs;refine Round.mk (J:=bsH xs tl H) ⟨n-1,by omega,by rw[←hs,hr],rfl,rfl,rfl⟩ (zK rfl (zR rfl (by rw[show((n:Int)-1)=((n-1:Nat):Int) by omega]) yF)) (hRa _) aA
 try simp only[aL]at hc15
 simp only[cJ,aR]at hc15;refine .exit ?_;refine Next.ex ?_;refine Next.ex ?_;refine Block.hit ?_;refine Next.go ?_;refine .sr (.mv rfl rfl (.as rfl rfl (.ng (.ret ?_))));refine Ret.go (.cons (.tmp _ _ rfl) .nil) _ (hRa _) ?_;refine⟨?_,rfl⟩;have hq:n=qG xs:=by
  rcases bF n with h0|h0
  ·subst h0;rw[←hr];rfl
  have hs:=acC (xs:=xs) (k:=n-1) aA;rw[show n-1+1=n by omega,aJ,hr]at hs;exact hs.symm
 rw[hq];rfl
theorem aaG(xs:List Nat)(tl:Tail)(hx:Limbs xs)(hl:xs.length≤1000000)(H:Heap):ACall prog 194 [.slice 1 (U .u32 xs) tl] H (λy H'=>y=qX (val xs)∧H'=H):=by
 have hr:=aaR xs;refine ACall.of_body func194 rfl ntmps194 results194 rfl ?_;refine .sr ?_;refine .p rfl (zE (aeH (sz:=1) (tl:=.full))) ?_;refine .nr (.mv rfl rfl (.mv rfl rfl (.cl rfl C240 (evs1 rfl) (acP _ _ aB aB _) (.p rfl (adE (_) U159 Z210 (tm rfl) (tm rfl) rfl aA) (.as rfl rfl (.ng (.ret ?_)))))));refine Ret.go (.cons (.tmp _ _ rfl) .nil) _ (hRa _) ?_;refine⟨?_,rfl⟩;simp only[yT,qX];rw[adJ hx]
theorem atQ(x y c:Nat)(hx:x<4294967296)(hy:y<4294967296)(hc:c≤1)(H:Heap):ACall prog 196 [.int .u32 (x:Int),.int .u32 (y:Int),.int .u32 (c:Int)] H (λz H'=>z= .tuple [.int .u32 ((x+y+c)%4294967296:Nat),.int .u32 ((x+y+c)/4294967296:Nat)]∧H'=H):=by
 refine ACall.of_body func196 rfl ntmps196 results196 rfl ?_;refine .sr (.p rfl (zE (yB 0)) (.p rfl (zE (yB 0)) (.nr (.mv rfl rfl (.p rfl (qD U210 U25 (tm rfl) (wrapN64 aA)) (.mv rfl rfl (.p rfl (qD U210 U25 (tm rfl) (wrapN64 aA)) (.p rfl (qF (tm rfl) (tm rfl) aA) ?_))))))));refine .mv rfl rfl (.p rfl (qD U210 U25 (tm rfl) (wrapN64 aA)) (.p rfl (qF (tm rfl) (tm rfl) aA) (.as rfl rfl (.nr (.mv rfl rfl (.p rfl (acX U25 U210 rfl (tm rfl)) (.as rfl rfl (.nr ?_))))))));refine .mv rfl rfl (.p rfl (aaM (tm rfl) (yB 32) aA) (.p rfl (acX U25 U210 rfl (tm rfl)) (.as rfl rfl (.ng (.ret ?_)))));refine Ret.go (.cons (.tmp _ _ rfl) (.cons (.tmp _ _ rfl) .nil)) _ (hRa _) ?_;refine⟨?_,rfl⟩;simp only[yT,IntKind.bits];rw[show(x+y+c)/2^32%2^32=(x+y+c)/4294967296 by omega]
end
def yN(n:Nat):Nat:=if n=0 then 0 else n.log2+1
theorem bwP:yN 0=0:=rfl
theorem ccQ(h:0<n):yN n=n.log2+1:=aJ
theorem qI{n k:Nat}:yN n≤k↔n<2^k:=by
 unfold yN;split
 ·rename_i h;subst h;simp;exact bL aC
 rename_i h
 rw[Nat.add_one_le_iff,Nat.log2_lt h]
theorem abO{n k:Nat}:k<yN n↔2^k≤n:=by
 have:=@qI n k;omega
theorem afH{m:Nat}(h:2^k≤n)(hm:m=n/2^k):yN n=k+yN m:=by
 subst hm;have hp:0<2^k:=bL aC;have h1:0<n/2^k:=Nat.div_pos h hp;have key:∀j,yN n≤k+j↔yN (n/2^k)≤j:=λj=>by
  rw[qI,qI,bW hp,bI,bM]
 have ha:=(key (yN (n/2^k))).2 (aZ _);have hk:k≤yN n:=dK (abO.2 h);have hb:=(key (yN n-k)).1 aA;omega
theorem ciW(hx:x<4294967296):∃y n:Nat,(if 65536≤x then x/65536 else x)=y∧(if 65536≤x then(16:Int)else 0)=n∧y<65536∧yN x=n+yN y:=by
 by_cases h:65536≤x
 ·exact⟨x/65536,16,aN h,aN h,by omega,afH (k:=16) h rfl⟩
 exact⟨x,0,aM h,aM h,by omega,by omega⟩
theorem clO{y:Nat}(hy:y<65536):∃z m:Nat,(if 256≤y then y/256 else y)=z∧(if 256≤y then(n:Int)+8 else n)=m∧z<256∧n+yN y=m+yN z:=by
 by_cases h:256≤y
 ·exact⟨y/256,n+8,aN h,by rw[aN h];simp,by omega,by rw[afH (n:=y) (k:=8) (m:=y/256) h rfl];omega⟩
 exact⟨y,n,aM h,aM h,by omega,rfl⟩
def len8tab:List UInt8:=[0,1,2,2,3,3,3,3,4,4,4,4,4,4,4,4,5,5,5,5,5,5,5,5,5,5,5,5,5,5,5,5,6,6,6,6,6,6,6,6,6,6,6,6,6,6,6,6,6,6,6,6,6,6,6,6,6,6,6,6,6,6,6,6,7,7,7,7,7,7,7,7,7,7,7,7,7,7,7,7,7,7,7,7,7,7,7,7,7,7,7,7,7,7,7,7,7,7,7,7,7,7,7,7,7,7,7,7,7,7,7,7,7,7,7,7,7,7,7,7,7,7,7,7,7,7,7,7]++List.replicate 128 8
theorem chR{z:Nat}(h:z<256):(len8tab.getD z 0).toNat=yN z:=by
 have key:∀z:Fin 256,(len8tab.getD z.1 0).toNat=yN z.1:=by decide+kernel
 exact key ⟨z,h⟩
theorem akI(h:0<n):yN n=32*((zF n).length-1)+yN ((zF n).getD ((zF n).length-1) 0):=by
 induction n using Nat.strongRecOn with
 |ind n ih=>
  rw[qV h];rcases bF (n/4294967296)with h0|h0
  ·rw[h0,aaU];simp;congr 1;omega
  have:=ih _ aA h0;have hpos:0<(zF (n/4294967296)).length:=by rw[qV h0];simp
  rw[afH (n:=n) (k:=32) aA rfl,show(2:Nat)^32=4294967296 by decide,this,aW,show(zF (n/4294967296)).length+1-1=((zF (n/4294967296)).length-1)+1 by omega,dF];omega
theorem agM(h:(zF a).length<(zF b).length):a<b:=by
 rcases bX a b with h1|h1
 ·exact h1
 have h2:(zF a).length≤(zF a).length:=aZ _;rw[qH]at h2;have h3:=qH.2 (bA h1 h2);omega
theorem ahX(hx:Limbs xs)(_:Limbs ys)(hl:xs.length=ys.length)(hk:k<xs.length)(hs:xs.drop (k+1)=ys.drop (k+1))(h:xs.getD k 0<ys.getD k 0):val xs<val ys:=by
 have e1:val xs=val (xs.take k)+4294967296^k*(xs.getD k 0+4294967296*val (xs.drop (k+1))):=by
  conv=>lhs;rw[←cK k xs,qW,cL hk,val,aV,cZ aA]
  rw[aP,aX hk];rfl
 have hk':k<ys.length:=by omega
 have e2:val ys=val (ys.take k)+4294967296^k*(ys.getD k 0+4294967296*val (ys.drop (k+1))):=by
  conv=>lhs;rw[←cK k ys,qW,cL hk',val,aV,cZ aA]
  rw[aP,aX hk'];rfl
 have h1:=aeO (hx.take k);rw[aV,cZ aA]at h1;rw[e1,e2,hs];generalize val (ys.drop (k+1))=z;have h2:4294967296^k*(xs.getD k 0+4294967296*z+1)≤4294967296^k*(ys.getD k 0+4294967296*z):=bS _ aA;rw[cB,fB]at h2;omega
section
open Go Go.RowKit
set_option maxRecDepth 100000
theorem aoG(xs:List Nat)(tl:Tail)(hx:Limbs xs)(hl:xs.length≤1000000)(H:Heap):ACall prog 171 [.slice 1 (U .u32 xs) tl] H (λy H'=>y=qX (val xs)∧H'=H):=by
 have hr:=aaR xs;refine ACall.of_body func171 rfl ntmps171 results171 rfl ?_;refine .sr ?_;refine .p rfl (zE (aeH (sz:=1) (tl:=.full))) ?_;refine .nr (.mv rfl rfl (.cl rfl C240 (evs1 rfl) (acP _ _ aB aB _) (.s rfl (yQ (_) U159 typeInfo210 Z210 V210 (tm rfl) (tm rfl) rfl rfl aC aA) ?_)));rintro _ _ ⟨b6,rfl,hb6,hH⟩;obtain rfl:=hH.symm;refine .as rfl rfl (.nr (.mv rfl rfl (.mv rfl rfl (.e rfl (anP U159 Z210 (tm rfl) (tm rfl) (oS _ _ _) (by(simp;done))) ?_))));try first|rw[sS]|rw[sU aB]
 refine .nr (.mv rfl rfl (.as rfl rfl (.ng ?_)));refine AWP.frzU (t:=2) rfl hb6 (by simp<;>omega) (aZ _) (by simp only[zQ];omega) ?_;refine .ret ?_;refine Ret.go (.cons (.tmp _ _ rfl) .nil) _ (hRa _) ?_;refine⟨?_,rfl⟩;simp only[yT,qX];rw[←adJ hx,copied hr]
theorem atI(x:Nat)(hx:x<4294967296)(H:Heap):ACall prog 281 [.int .u32 (x:Int)] H (λy H'=>y= .int .i64 (yN x:Int)∧H'=H):=by
 have hb32:∀z,z<256→yN z≤8:=λz hz=>qI.2 hz;refine ACall.of_body func281 rfl ntmps281 results281 rfl ?_;refine .sr (.p rfl (zE zJ) (.ng ?_));refine AWP.seqToL [(0,.int .u32 ((if 65536≤x then x/65536 else x:Nat):Int)),(2,.int .i64 (if 65536≤x then 16 else 0))] [] ?_ ?_
 ·refine .sr (.mv rfl rfl (.p rfl (ajS (tm rfl) (yB 65536)) (.ng ?_)));refine AWP.cond (tm rfl) (λhc4=>?_) (λhc4=>?_)
  ·try simp only[aT]at hc4
   refine .sr (.mv rfl rfl (.p rfl (anU (tm rfl) (yB 16) aB) (.as rfl rfl (.ng (.region (.p rfl (zE zJ) (.nil ?_)))))));exact⟨rfl,(zR rfl (by rw[aK]) (zR rfl (by rw[aK]) yF)),rfl⟩
  try simp only[aR,Int.not_le]at hc4
  refine .skip ?_;exact⟨rfl,(zR rfl (by rw[aJ]) (zR rfl (by rw[aJ]) yF)),rfl⟩
 refine AWP.sub [(0,_),(2,_)] (zK rfl (zK rfl yF)) ?_;obtain⟨y,n,hy,hn,hyx,hbl⟩:=ciW hx;rw[hy,hn];refine AWP.seqToL [(0,.int .u32 ((if 256≤y then y/256 else y:Nat):Int)),(2,.int .i64 (if 256≤y then(n:Int)+8 else n))] [] ?_ ?_
 ·refine .sr (.mv rfl rfl (.p rfl (ajS (tm rfl) (yB 256)) (.ng ?_)));refine AWP.cond (tm rfl) (λhc8=>?_) (λhc8=>?_)
  ·try simp only[aT]at hc8
   refine .sr (.mv rfl rfl (.p rfl (anU (tm rfl) (yB 8) aA) (.as rfl rfl (.ng (.region (.mv rfl rfl (.p rfl (yZ (tm rfl) zJ aA) (.as rfl rfl ?_))))))));refine .nil ?_;exact⟨rfl,(zR rfl (by rw[aK]) (zR rfl (by rw[aK]) yF)),rfl⟩
  try simp only[aR,Int.not_le]at hc8
  refine .skip ?_;exact⟨rfl,(zR rfl (by rw[aJ]) (zR rfl (by rw[aJ]) yF)),rfl⟩
 refine AWP.sub [(0,_),(2,_)] (zK rfl (zK rfl yF)) ?_;obtain⟨z,m,hz,hm,hzx,hbz⟩:=clO (n:=n) hyx;rw[hz,hm];have hz8:=hb32 z hzx;have hx32:=(qI (n:=x) (k:=32)).2 hx;refine .sr (.mv rfl rfl (.mv rfl rfl (.p rfl (acX U210 U5 rfl (tm rfl)) ?_)));refine .p rfl (axY (r:=yN z) len8tab U9 (zO rfl) (tm rfl) aD (by simp only[IntKind.bits];show _<256;omega) (by rw[show z%2^IntKind.u8.bits=z from bH hzx];exact chR hzx)) ?_;refine .p rfl (qD U5 U3 (tm rfl) (wrapNI64 aA)) (.p rfl (yZ (tm rfl) (tm rfl) aA) (.as rfl rfl (.ng (.ret ?_))));refine Ret.go (.cons (.tmp _ _ rfl) .nil) _ (hRa _) ?_;refine⟨?_,rfl⟩;rw[hbl,hbz];simp[yT]
end
theorem aeX(h:xs.length≤i):xs.getD i 0=0:=by
 grind
theorem yV(xs:List Nat)(i:Nat):val (xs.take (i+1))=val (xs.take i)+4294967296^i*xs.getD i 0:=by
 rcases bX i xs.length with h|h
 ·exact awW h
 rw[aeX h,aY aA,aY h];omega
theorem aeB(h:i<zs.length):val ((zs.set i v).take (i+1))=val (zs.take i)+4294967296^i*v:=by
 rw[yV,List.take_set_of_le (aZ _)];rw[aP,List.getElem?_set_self h];rfl
theorem Limbs.set(h:Limbs zs)(hv:v<4294967296):Limbs (zs.set i v):=λy hy=>by
 rcases List.mem_or_eq_of_mem_set hy with h1|h1
 ·exact h y h1
 rw[h1];exact hv
theorem arD(h:Limbs xs):256<qG xs↔BIG≤val xs:=by
 rw[abD h];have:=@qH (val xs) 256;unfold BIG;omega
theorem bcD{n:Nat}:256<(zF n).length↔BIG≤n:=by
 have:=@qH n 256;unfold BIG;omega
theorem bkV(hi:i<zs.length)(h:val (zs.take i)+4294967296^i*c=val (xs.take i)+val (ys.take i)):
  val ((zs.set i ((xs.getD i 0+ys.getD i 0+c)%4294967296)).take (i+1))+4294967296^(i+1)*((xs.getD i 0+ys.getD i 0+c)/4294967296)=val (xs.take (i+1))+val (ys.take (i+1)):=by
 rw[aeB hi,yV xs,yV ys,bP];generalize xs.getD i 0=x at *;generalize ys.getD i 0=y at *;generalize 4294967296^i=B at *;have e:B*((x+y+c)%4294967296)+B*4294967296*((x+y+c)/4294967296)=B*(x+y+c):=by
  rw[bJ,←cB,fV]
 have e2:B*(x+y+c)=B*x+B*y+B*c:=by rw[cB,cB]
 omega
theorem cjB(hz:zs.length=n+1)(hx:xs.length=n)(hy:ys.length≤n)(h:val (zs.take n)+4294967296^n*c=val (xs.take n)+val (ys.take n)):val (zs.set n c)=val xs+val ys:=by
 have e:=aeB (zs:=zs) (i:=n) (v:=c) aA;rw[aY aG]at e;rw[e,h,aY aA,aY aA]
def azE(a b:Nat):Int:=if a<b then-1 else if b<a then 1 else 0
theorem bcT(hl:xs.length=ys.length)(hk:k<xs.length)(hs:xs.drop (k+1)=ys.drop (k+1))(he:xs.getD k 0=ys.getD k 0):xs.drop k=ys.drop k:=by
 rw[cL hk,cL (by omega:k<ys.length),hs];congr 1;rw[aP,aP,aX hk,aX (by omega:k<ys.length)]at he;simpa using he
section
open Go Go.RowKit
set_option maxRecDepth 100000
theorem aeA(v:Nat)(hv:v<18446744073709551616)(H:Heap):ACall prog 93 [.int .u64 (v:Int)] H (λy H'=>y=qX v∧H'=H):=by
 refine ACall.of_body func93 rfl ntmps93 results93 rfl ?_;refine .sr ?_;refine .p rfl (zE (aeH (sz:=1) (tl:=.full))) ?_;refine .nr (.mv rfl rfl (.p rfl (acX U25 U210 rfl (tm rfl)) (.mv rfl rfl (.p rfl (aaM (tm rfl) (yB 32) aB) (.p rfl (acX U25 U210 rfl (tm rfl)) (.e rfl (aeT U159 Z210 V210 rfl (tm rfl) (.inl rfl) ⟨rfl,rfl⟩ (tm rfl) (.inl rfl) ⟨rfl,rfl⟩) ?_))))));refine .cl rfl C171 (evs1 rfl) (aoG [v%2^IntKind.u32.bits,v/2^32%2^IntKind.u32.bits] .full (Limbs.mk (by simp only[IntKind.bits];omega) (Limbs.mk (by simp only[IntKind.bits];omega) Limbs.nil)) aF _) ?_;refine .as rfl rfl (.ng (.ret ?_));refine Ret.go (.cons (.tmp _ _ rfl) .nil) _ (hRa _) ?_;refine⟨?_,rfl⟩;show qX _=_;congr 1;simp only[val,IntKind.bits];omega
theorem bpU(x:Nat)(hx:x<4294967296)(H:Heap):ACall prog 323 [.int .u32 (x:Int)] H (λy H'=>y= .int .i64 ((32-yN x:Nat):Int)∧H'=H):=by
 have hb:=(qI (n:=x) (k:=32)).2 hx;refine ACall.of_body func323 rfl ntmps323 results323 rfl ?_;refine .sr (.p rfl (zE zJ) (.nr (.mv rfl rfl (.cl rfl call281 (evs1 rfl) (atI _ aB _) (.p rfl (qK zJ (tm rfl) aA) (.as rfl rfl (.ng (.ret ?_))))))));refine Ret.go (.cons (.tmp _ _ rfl) .nil) _ (hRa _) ?_;refine⟨?_,rfl⟩;simp only[yT];congr 1;omega
theorem bdG(xs:List Nat)(tl:Tail)(hx:Limbs xs)(hl:xs.length≤1000000)(H:Heap):ACall prog 241 [.slice 1 (U .u32 xs) tl] H (λy H'=>y= .int .i64 (yN (val xs):Int)∧H'=H):=by
 have hr:=aaR xs;have hrl:=abD hx;refine ACall.of_body func241 rfl ntmps241 results241 rfl ?_;refine .sr (.p rfl (zE zJ) (.nr (.mv rfl rfl (.cl rfl C194 (evs1 rfl) (aaG _ _ aB aB _) (.as rfl rfl (.ng (.seq (.sr ?_))))))));refine .mv rfl rfl (.p rfl (qB U159 (tm rfl)) (.p rfl (acE (tm rfl) zJ) (.ng ?_)));refine AWP.cond (tm rfl) (λhc7=>?_) (λhc7=>?_)
 ·try simp only[aT]at hc7
  refine .sr (.p rfl (zE zJ) (.ng (.ret ?_)));refine Next.rt ?_;refine Ret.go (.cons (.tmp _ _ rfl) .nil) _ (hRa _) ?_;refine⟨?_,rfl⟩;have h0:val xs=0:=by
   rcases bF (val xs)with h|h
   ·exact h
   rw[qV h]at hc7;simp at hc7;omega
  rw[h0];rfl
 try simp only[aR]at hc7
 have hpos:0<val xs:=by
  rcases bF (val xs)with h|h
  ·rw[h,aaU]at hc7;exact absurd rfl hc7
  exact h
 have hbl:=akI hpos;have hlb:=(qI (n:=(zF (val xs)).getD ((zF (val xs)).length-1) 0) (k:=32)).2 (Limbs.getD (zH _) _);refine .skip ?_;refine Next.go ?_;refine .sr (.mv rfl rfl (.p rfl (qB U159 (tm rfl)) (.p rfl (qK (tm rfl) zJ aA) (.p rfl (axX zJ (tm rfl) aA) (.mv rfl rfl (.mv rfl rfl (.p rfl (qB U159 (tm rfl)) (.p rfl (qK (tm rfl) zJ aA) ?_))))))));refine .p rfl (zV ((zF (val xs)).length-1) U159 Z210 (tm rfl) (tm rfl) aA aA) (.p rfl (zW G210 (tm rfl)) (.cl rfl call281 (evs1 rfl) (atI _ (Limbs.getD (zH _) _) _) (.p rfl (yZ (tm rfl) (tm rfl) aA) (.as rfl rfl (.ng (.ret ?_))))));refine Ret.go (.cons (.tmp _ _ rfl) .nil) _ (hRa _) ?_;refine⟨?_,rfl⟩;simp only[yT];congr 1;omega
def clN(xs ys:List Nat)(H:Heap):Nat→Env→Heap→Prop:=λk env H1=>∃i:Nat,i≤xs.length∧xs.drop (xs.length-i)=ys.drop (xs.length-i)∧env=[(0,.slice 1 (U .u32 xs) .shared),(1,.slice 1 (U .u32 ys) .shared),(22,.int .i64 (xs.length:Int)),(23,.int .i64 (i:Int))]∧H=H1∧k=xs.length-i
theorem bxI(xs:List Nat)(tl:Tail)(hx:Limbs xs)(hl:xs.length≤1000000)(ys:List Nat)(tl2:Tail)(hy:Limbs ys)(hm:ys.length≤1000000)(H:Heap):ACall prog 189 [.slice 1 (U .u32 xs) tl,.slice 1 (U .u32 ys) tl2] H (λy H'=>y= .int .i64 (azE (val xs) (val ys))∧H'=H):=by
 have hr:=aaR xs;have hrl:=abD hx;have hs:=aaR ys;have hsl:=abD hy;refine ACall.of_body func189 rfl ntmps189 results189 rfl ?_;refine .sr (.p rfl (zE zJ) (.nr (.mv rfl rfl (.cl rfl C194 (evs1 rfl) (aaG _ _ aB aB _) (.mv rfl rfl (.cl rfl C194 (evs1 rfl) (aaG _ _ aB aB _) (.as rfl rfl (.as rfl rfl ?_))))))));refine .ng (.seq (.sr (.mv rfl rfl (.p rfl (qB U159 (tm rfl)) (.mv rfl rfl (.p rfl (qB U159 (tm rfl)) (.p rfl (apP (tm rfl) (tm rfl)) (.ng ?_))))))));refine AWP.cond (tm rfl) (λhc15=>?_) (λhc15=>?_)
 ·try simp only[aT,ne_eq]at hc15
  refine .seq (.sr (.mv rfl rfl (.p rfl (qB U159 (tm rfl)) (.mv rfl rfl (.p rfl (qB U159 (tm rfl)) (.p rfl (aaH (tm rfl) (tm rfl)) (.ng ?_)))))));refine AWP.cond (tm rfl) (λhc20=>?_) (λhc20=>?_)
  ·try simp only[aT]at hc20
   refine .sr (.p rfl (zE zJ) (.ng (.ret ?_)));refine Next.rt ?_;refine Next.rt ?_;refine Ret.go (.cons (.tmp _ _ rfl) .nil) _ (hRa _) ?_;refine⟨?_,rfl⟩;rw[azE,aN (agM aA)];rfl
  try simp only[aR,cU]at hc20
  refine .skip ?_;refine Next.go ?_;refine .sr (.p rfl (zE zJ) (.ng (.ret ?_)));refine Next.rt ?_;refine Ret.go (.cons (.tmp _ _ rfl) .nil) _ (hRa _) ?_;refine⟨?_,rfl⟩;have:=agM (a:=val ys) (b:=val xs) aA;rw[azE,aJ,aN this];rfl
 try simp only[aR,ne_eq,gQ]at hc15
 have hLx:=zH (val xs);have hLy:=zH (val ys);have hvx:=zN (val xs);have hvy:=zN (val ys);have hlen:(zF (val xs)).length=(zF (val ys)).length:=by omega
 refine .skip ?_;refine Next.go ?_;refine .seq (.sr (.mv rfl rfl (.p rfl (qB U159 (tm rfl)) (.p rfl (zG zJ) (.ng (.block ?_))))));refine AWP.loopW (clN (zF (val xs)) (zF (val ys)) H) ((zF (val xs)).length) ⟨0,Nat.zero_le _,by rw[gU,fL,hlen,fL],rfl,rfl,rfl⟩ (zK rfl (zK rfl (zK rfl (zK rfl yF)))) (hRa _) ?_;rintro _ _ _ ⟨i,hi,hd,rfl,rfl,rfl⟩;refine .sr (.p rfl (aaH (tm rfl) (tm rfl)) (.ng (.seq ?_)));refine AWP.cond (tm rfl) (λhc24=>?_) (λhc24=>?_)
 ·try simp only[aT]at hc24
  have hds:(zF (val xs)).drop ((zF (val xs)).length-1-i+1)=(zF (val ys)).drop ((zF (val xs)).length-1-i+1):=by rw[show(zF (val xs)).length-1-i+1=(zF (val xs)).length-i by omega];exact hd
  refine .skip ?_;refine Next.go ?_;refine .seq (.block (.sr (.mv rfl rfl (.as rfl rfl (.nr (.mv rfl rfl (.p rfl (qB U159 (tm rfl)) (.p rfl (qK (tm rfl) zJ aA) ?_))))))));refine .mv rfl rfl (.p rfl (qK (tm rfl) (tm rfl) aA) (.as rfl rfl (.ng (.block (.seq ?_)))));refine AWP.draw [(0,true),(1,true),(2,true),(3,true),(4,true),(5,true),(6,true),(7,true),(8,true),(9,true)] rfl aE ?_;refine .p rfl rfl (zG (tm rfl)) (.p rfl rfl (zG (tm rfl)) (.p rfl rfl (zV ((zF (val xs)).length-1-i) U159 Z210 (tm rfl) (tm rfl) aA aA) (.p rfl rfl (zW G210 (tm rfl)) (.p rfl rfl (zG (tm rfl)) (.p rfl rfl (zG (tm rfl)) (.p rfl rfl (zV ((zF (val xs)).length-1-i) U159 Z210 (tm rfl) (tm rfl) aA aA) (.p rfl rfl (zW G210 (tm rfl)) (.p rfl rfl (aaH (tm rfl) (tm rfl)) ?_))))))));refine .p rfl rfl (zE (tm rfl)) (.nil ?_);refine Next.go ?_;refine AWP.cond (tm rfl) (λhc31=>?_) (λhc31=>?_)
  ·try simp only[aT]at hc31
   refine .sr (.p rfl (zE zJ) (.ng (.ret ?_)));refine Block.rt ?_;refine Block.rt ?_;refine Next.rt ?_;refine Next.rt ?_;refine Block.rt ?_;refine Next.rt ?_;refine Ret.go (.cons (.tmp _ _ rfl) .nil) _ (hRa _) ?_;refine⟨?_,rfl⟩;have:=ahX hLx hLy hlen (k:=(zF (val xs)).length-1-i) aA hds aA;rw[hvx,hvy]at this;rw[azE,aK];rfl
  try simp only[aR,cU]at hc31
  refine .seq ?_;refine AWP.draw [(0,true),(1,true),(2,true),(3,true),(4,true),(5,true),(6,true),(7,true),(8,true),(9,true)] rfl aE ?_;refine .p rfl rfl (zG (tm rfl)) (.p rfl rfl (zG (tm rfl)) (.p rfl rfl (zV ((zF (val xs)).length-1-i) U159 Z210 (tm rfl) (tm rfl) aA aA) (.p rfl rfl (zW G210 (tm rfl)) (.p rfl rfl (zG (tm rfl)) (.p rfl rfl (zG (tm rfl)) (.p rfl rfl (zV ((zF (val xs)).length-1-i) U159 Z210 (tm rfl) (tm rfl) aA aA) (.p rfl rfl (zW G210 (tm rfl)) (.p rfl rfl (abH (tm rfl) (tm rfl)) ?_))))))));refine .p rfl rfl (zE (tm rfl)) (.nil ?_);refine Next.go ?_;refine AWP.cond (tm rfl) (λhc41=>?_) (λhc41=>?_)
  ·try simp only[aT]at hc41
   refine .sr (.p rfl (zE zJ) (.ng (.ret ?_)));refine Block.rt ?_;refine Block.rt ?_;refine Next.rt ?_;refine Next.rt ?_;refine Block.rt ?_;refine Next.rt ?_;refine Ret.go (.cons (.tmp _ _ rfl) .nil) _ (hRa _) ?_;refine⟨?_,rfl⟩;have:=ahX hLy hLx hlen.symm (k:=(zF (val xs)).length-1-i) aA hds.symm aA;rw[hvx,hvy]at this;rw[azE,aJ,aK];rfl
  try simp only[aR,cU]at hc41
  refine .skip ?_;refine Block.go ?_;refine Block.go ?_;refine Next.go ?_;refine .region (.p rfl (yZ (tm rfl) zJ aA) (.mv rfl rfl (.ng ?_)));refine Round.mk (J:=clN (zF (val xs)) (zF (val ys)) H) ⟨i+1,by omega,by rw[show(zF (val xs)).length-(i+1)=(zF (val xs)).length-1-i by omega];exact bcT hlen aA hds aA,rfl,rfl,rfl⟩ (zK rfl (zK rfl (zK rfl (zK rfl yF)))) (hRa _) aA
 try simp only[aR,cU]at hc24
 refine .exit ?_;refine Next.ex ?_;refine Next.ex ?_;refine Block.hit ?_;refine Next.go ?_;refine .sr (.p rfl (zE zJ) (.ng (.ret ?_)));refine Ret.go (.cons (.tmp _ _ rfl) .nil) _ (hRa _) ?_;refine⟨?_,rfl⟩;have h0:(zF (val xs)).length-i=0:=by omega
 have hxy:zF (val xs)=zF (val ys):=by rw[h0]at hd;simpa using hd
 rw[bcC hxy,azE,aM (fX _),aM (fX _)];rfl
end
theorem atP:∀k,k=32*256→BIG=2^k:=by intro k hk;unfold BIG;rw[show(4294967296:Nat)=2^32 by decide,←dV,hk]
theorem akX(h:a<2^k):(b*2^k)|||a=b*2^k+a:=by
 rw[bM,Nat.two_pow_add_eq_or_of_lt h]
theorem bfW(h:a<2^k):a|||(b*2^k)=a+b*2^k:=by
 rw[Nat.or_comm,akX h,fG]
theorem awX(h:i<zs.length):val (zs.set i v)+4294967296^i*zs.getD i 0=val zs+4294967296^i*v:=by
 induction zs generalizing i with
 |nil=>simp at h
 |cons z zs ih=>
  cases i with
  |zero=>simp[val];omega
  |succ i=>
   have:=ih (i:=i) (by simpa using h);rw[List.set_cons_succ,val,val,dF,bP];generalize 4294967296^i=B at *;generalize zs.getD i 0=x at *;have e1:B*4294967296*x=4294967296*(B*x):=by rw[bM B,bJ]
   have e2:B*4294967296*v=4294967296*(B*v):=by rw[bM B,bJ]
   rw[e1,e2];omega
theorem getD_set_ne{j:Nat}(h:i≠j):(zs.set i v).getD j 0=zs.getD j 0:=by
 grind
theorem ayU(h:i<zs.length):(zs.set i v).getD i 0=v:=by
 grind
theorem bkC(n j:Nat):(List.replicate n 0).getD j 0=0:=by
 grind
theorem bjN{y o:Nat}(hx:x<4294967296)(hy:y<4294967296)(ho:o<4294967296)(hc:c<4294967296):x*y+o+c<18446744073709551616:=by
 have:x*y≤4294967295*4294967295:=eN aA aA;omega
theorem bjM{o0:List Nat}(hi:i+k<zs.length)(h:val zs+4294967296^(i+k)*c=val o0+4294967296^i*xs.getD i 0*val (ys.take k)):
  val (zs.set (i+k) ((xs.getD i 0*ys.getD k 0+zs.getD (i+k) 0+c)%4294967296))+4294967296^(i+(k+1))*((xs.getD i 0*ys.getD k 0+zs.getD (i+k) 0+c)/4294967296)=val o0+4294967296^i*xs.getD i 0*val (ys.take (k+1)):=by
 have e:=awX (zs:=zs) (i:=i+k) (v:=(xs.getD i 0*ys.getD k 0+zs.getD (i+k) 0+c)%4294967296) hi;rw[yV ys,←fA,bP];rw[bI]at *;generalize xs.getD i 0=x at *;generalize ys.getD k 0=y at *;generalize zs.getD (i+k) 0=o at *;generalize 4294967296^i=A at *;generalize 4294967296^k=B at *;generalize val (ys.take k)=w at *;generalize val (zs.set (i+k) ((x*y+o+c)%4294967296))=u at *;have e3:A*B*((x*y+o+c)%4294967296)+A*B*4294967296*((x*y+o+c)/4294967296)=A*B*(x*y+o+c):=by
  rw[bJ (A*B),←cB,fV]
 have e4:A*B*(x*y+o+c)=A*x*(B*y)+A*B*o+A*B*c:=by
  rw[cB,cB];congr 2;rw[bJ,bJ,Nat.mul_left_comm B x y]
 rw[cB];omega
theorem btZ{o0:List Nat}{m:Nat}(hm:ys.length=m)(hi:i+m<zs.length)(hz:zs.getD (i+m) 0=0)(h0:val o0=val (xs.take i)*val ys)(h:val zs+4294967296^(i+m)*c=val o0+4294967296^i*xs.getD i 0*val (ys.take m)):
  val (zs.set (i+m) c)=val (xs.take (i+1))*val ys:=by
 have e:=awX (zs:=zs) (i:=i+m) (v:=c) hi;rw[hz,dJ,cA]at e;have ey:ys.take m=ys:=aY aA;rw[e,h,h0,ey,yV,bY]
theorem blU{ws:List Nat}{s:Nat}(hi:i<ws.length)(hs:s≤32)(hx:xs.getD i 0<4294967296)(hc:c<2^s)(h:val (ws.take i)+4294967296^i*c=val (xs.take i)*2^s):
  val ((ws.set i ((c+xs.getD i 0*2^s)%4294967296)).take (i+1))+4294967296^(i+1)*((c+xs.getD i 0*2^s)/4294967296)=val (xs.take (i+1))*2^s∧(c+xs.getD i 0*2^s)/4294967296<2^s∧c+xs.getD i 0*2^s<18446744073709551616:=by
 refine⟨?_,?_,?_⟩
 ·rw[aeB hi,yV xs,bP,bY,←h];generalize xs.getD i 0=x at *;generalize 4294967296^i=B at *;generalize 2^s=S at *;have e3:B*((c+x*S)%4294967296)+B*4294967296*((c+x*S)/4294967296)=B*(c+x*S):=by
   rw[bJ B,←cB,fV]
  rw[cB,←bJ]at e3;omega
 ·rw[bW aC];have:xs.getD i 0*2^s≤4294967295*2^s:=bD _ aA;omega
 have h1:xs.getD i 0*2^s≤4294967295*2^s:=bD _ aA;have h2:2^s≤2^32:=bB aC hs;omega
theorem biA{ws:List Nat}(hL:Limbs ws)(hn:ws.length=n)(h:val (ws.take n)+4294967296^n*c=v):val ws=v%4294967296^n:=by
 have:=aeO hL;rw[hn]at this;rw[aY aA]at h;rw[←h,dW,bH this]
theorem auU{z0:List Nat}{d:Nat}(_:0<d)(hk:k<zs.length)(hl:zs.length=z0.length)(_:zs.getD k 0=z0.getD k 0)(h:val (zs.drop (k+1))*d+r=val (z0.drop (k+1))):
  val ((zs.set k ((r*4294967296+z0.getD k 0)/d)).drop k)*d+(r*4294967296+z0.getD k 0)%d=val (z0.drop k):=by
 have hk0:k<z0.length:=by omega
 have e1:(zs.set k ((r*4294967296+z0.getD k 0)/d)).drop k=(r*4294967296+z0.getD k 0)/d::zs.drop (k+1):=by
  rw[cL (by simpa using hk),List.getElem_set_self,List.drop_set_of_lt aA]
 have e2:z0.drop k=z0.getD k 0::z0.drop (k+1):=by
  rw[cL hk0,aP,aX hk0];rfl
 rw[e1,e2,val,val,←h];generalize z0.getD k 0=x;generalize val (zs.drop (k+1))=w;have e3:=cM (r*4294967296+x) d;generalize(r*4294967296+x)/d=q at *;generalize(r*4294967296+x)%d=m at *;rw[bY,bM q d,bJ,cB 4294967296 (w*d) r];omega
theorem auV{d:Nat}(hr:r<d)(hx:x<4294967296)(hd:d<4294967296):(r*4294967296+x)/d<4294967296∧r*4294967296+x<18446744073709551616:=by
 refine⟨?_,by omega⟩;rw[bW aA];have:(r+1)*4294967296≤d*4294967296:=bD _ hr;omega
section
open Go Go.RowKit
set_option maxRecDepth 100000
def cdV(p:Prop)[Decidable p](v:Nat):AV:=.tuple [qX (if p then v else 0),.int .i64 (if p then 0 else 2)]
theorem avF{p:Prop}[Decidable p](h:p):cdV p v= .tuple [qX v,.int .i64 0]:=by unfold cdV;rw[aN h,aN h]
theorem baZ{p:Prop}[Decidable p](h:¬p):cdV p v= .tuple [qX 0,.int .i64 2]:=by unfold cdV;rw[aM h,aM h]
theorem bmG{p q:Prop}[Decidable p][Decidable q](h:p↔q):cdV p v=cdV q v:=by
 by_cases hp:p
 ·rw[avF hp,avF (h.1 hp)]
 rw[baZ hp,baZ (λhq=>hp (h.2 hq))]
def ceO(v:Nat):AV:=cdV (v<BIG) v
def cmA(a b:Nat):AV:=cdV (a<BIG∧b<BIG∧a*b<BIG) (a*b)
def cmD(p:List Nat×Tail):AV:=.slice 1 (U .u32 p.1) p.2
def bxR(p:List Nat×Tail):Bool:=decide (256<qG p.1)
theorem byC{α:Type}{l:List α}{q:α→Bool}(hi:i<l.length)(h:(l.take i).any q=false)(hq:q l[i]=false):(l.take (i+1)).any q=false:=by
 rw[←cI hi,List.any_append,h];simp[hq]
theorem chZ{α:Type}{l:List α}{q:α→Bool}(hi:i<l.length)(hq:q l[i]=true):l.any q=true:=by
 rw[List.any_eq_true];exact⟨l[i],cF hi,hq⟩
def ceE(l:List (List Nat×Tail))(tl:Tail)(H:Heap):Nat→Env→Heap→Prop:=λk env H1=>∃i:Nat,i≤l.length∧(l.take i).any bxR=false∧env=[(0,.slice 1 (l.map cmD) tl),(5,.slice 1 (l.map cmD) tl),(6,.int .i64 (l.length:Int)),(7,.int .i64 (i:Int))]∧H=H1∧k=l.length-i
theorem avT(l:List (List Nat×Tail))(tl:Tail)(hx:∀p,p∈l→Limbs p.1)(hl:∀p,p∈l→p.1.length≤1000000)(hL:l.length≤1000)(H:Heap):ACall prog 193 [.slice 1 (l.map cmD) tl] H (λy H'=>y= .bool (l.any bxR)∧H'=H):=by
 refine ACall.of_body func193 rfl ntmps193 results193 rfl ?_;refine .sr (.p rfl (zE zT) (.ng (.seq (.sr (.mv rfl rfl (.p rfl (bbL U314 (tm rfl)) (.p rfl (zG zJ) (.ng ?_))))))));refine .block ?_;refine AWP.loopW (ceE l tl H) (l.length) ⟨0,Nat.zero_le _,rfl,rfl,rfl,rfl⟩ (zK rfl (zK rfl (zK rfl (zK rfl yF)))) (hRa _) ?_;rintro _ _ _ ⟨i,hi,hany,rfl,rfl,hk⟩;refine .sr (.p rfl (aaH (tm rfl) (tm rfl)) (.ng (.seq ?_)));refine AWP.cond (tm rfl) (λhc8=>?_) (λhc8=>?_)
 ·try simp only[aT]at hc8
  have hi2:i<l.length:=by omega
  refine .skip ?_;refine Next.go ?_;refine .seq (.block (.sr (.p rfl (alJ U314 Z159 (tm rfl) (tm rfl) aA aA) (.p rfl (zW isAgg159 (tm rfl)) (.as rfl rfl (.nr (.mv rfl rfl (.cl rfl C240 (evs1 rfl) (acP l[i].1 l[i].2 (hx _ (cF hi2)) (hl _ (cF hi2)) _) ?_))))))));refine .p rfl (abH (tm rfl) zJ) (.ng ?_);refine AWP.cond (tm rfl) (λhc13=>?_) (λhc13=>?_)
  ·try simp only[aT]at hc13
   have hb:bxR l[i]=true:=by unfold bxR;simp only[aT];omega
   refine .sr (.p rfl (zE zT) (.ng (.ret ?_)));refine Block.rt ?_;refine Next.rt ?_;refine Next.rt ?_;refine Block.rt ?_;refine Next.rt ?_;refine Ret.go (.cons (.tmp _ _ rfl) .nil) _ (hRa _) ?_;refine⟨?_,rfl⟩;rw[chZ hi2 hb];rfl
  try simp only[aR,cU]at hc13
  have hb:bxR l[i]=false:=by unfold bxR;simp only[aR];omega
  refine .skip ?_;refine Block.go ?_;refine Next.go ?_;refine .region (.p rfl (yZ (tm rfl) zJ aA) (.mv rfl rfl (.ng ?_)));refine Round.mk (J:=ceE l tl H) ⟨i+1,by omega,byC hi2 hany hb,rfl,rfl,rfl⟩ (zK rfl (zK rfl (zK rfl (zK rfl yF)))) (hRa _) aA
 try simp only[aR,cU]at hc8
 refine .exit ?_;refine Next.ex ?_;refine Next.ex ?_;refine Block.hit ?_;refine Next.go ?_;refine .sr (.p rfl (zE zT) (.ng (.ret ?_)));refine Ret.go (.cons (.tmp _ _ rfl) .nil) _ (hRa _) ?_;refine⟨?_,rfl⟩;rw[aY aA]at hany;rw[hany];rfl
theorem awI(xs:List Nat)(tl:Tail)(hx:Limbs xs)(hl:xs.length≤1000000)(H:Heap):ACall prog 195 [.slice 1 (U .u32 xs) tl] H (λy H'=>y=ceO (val xs)∧H'=H):=by
 have hb:=@bcD (val xs);have hr:=aaR xs;have hrl:=abD hx;refine ACall.of_body func195 rfl ntmps195 results195 rfl ?_;refine .sr ?_;refine .p rfl (zE (aeH (sz:=1) (tl:=.shared))) ?_;refine .p rfl (zE zJ) (.ng (.seq (.sr (.mv rfl rfl (.cl rfl C194 (evs1 rfl) (aaG _ _ aB aB _) (.as rfl rfl (.nr (.mv rfl rfl ?_))))))));refine .p rfl (qB U159 (tm rfl)) (.p rfl (abH (tm rfl) zJ) (.ng ?_));refine AWP.cond (tm rfl) (λhc8=>?_) (λhc8=>?_)
 ·try simp only[aT]at hc8
  refine .sr ?_;refine .p rfl (zE (aeH (sz:=1) (tl:=.shared))) ?_;refine .p rfl (zE zJ) (.ng (.ret ?_));refine Next.rt ?_;refine Ret.go (.cons (.tmp _ _ rfl) (.cons (.tmp _ _ rfl) .nil)) _ (hRa _) ?_;refine⟨?_,rfl⟩;rw[ceO,baZ aA];rfl
 try simp only[aR,cU]at hc8
 refine .skip ?_;refine Next.go ?_;refine .sr (.mv rfl rfl (.as rfl rfl (.p rfl (zE zJ) (.ng (.ret ?_)))));refine Ret.go (.cons (.tmp _ _ rfl) (.cons (.tmp _ _ rfl) .nil)) _ (hRa _) ?_;refine⟨?_,rfl⟩;rw[ceO,avF aA];rfl
theorem cfJ{tl tl2:Tail}(hx:Limbs xs)(hy:Limbs ys):[(xs,tl),(ys,tl2)].any bxR=decide (BIG≤val xs∨BIG≤val ys):=by
 have h1:=arD hx;have h2:=arD hy;have e:∀a b:Prop,∀[Decidable a][Decidable b],(decide a||decide b)=decide (a∨b):=by intro a b _ _;by_cases a<;>by_cases b<;>simp_all
 simp only[List.any_cons,List.any_nil,Bool.or_false,bxR,h1,h2,e]
theorem cgS{tl:Tail}(hx:Limbs xs):[(xs,tl)].any bxR=decide (BIG≤val xs):=by
 have h1:=arD hx;simp only[List.any_cons,List.any_nil,Bool.or_false,bxR,h1]
theorem arW(xs:List Nat)(tl tl3:Tail)(hx:Limbs xs)(hl:xs.length≤1000000):Fn 193 [.slice 1 [.slice 1 (U .u32 xs) tl] tl3] (.bool (decide (BIG≤val xs))):=by
 intro H;rw[←cgS (tl:=tl) hx];exact avT [(xs,tl)] tl3 (by simpa using hx) (by simpa using hl) aF H
theorem aiE(xs:List Nat)(tl:Tail)(hx:Limbs xs)(hl:xs.length≤1000000)(ys:List Nat)(tl2 tl3:Tail)(hy:Limbs ys)(hm:ys.length≤1000000):Fn 193 [.slice 1 [.slice 1 (U .u32 xs) tl,.slice 1 (U .u32 ys) tl2] tl3] (.bool (decide (BIG≤val xs∨BIG≤val ys))):=by
 intro H;rw[←cfJ (tl:=tl) (tl2:=tl2) hx hy];refine avT [(xs,tl),(ys,tl2)] tl3 ?_ ?_ aF H
 ·intro p hp;rcases dG.1 hp with rfl|hp
  ·exact hx
  rcases dG.1 hp with rfl|hp
  ·exact hy
  simp at hp
 intro p hp;rcases dG.1 hp with rfl|hp
 ·exact hl
 rcases dG.1 hp with rfl|hp
 ·exact hm
 simp at hp
end
section
open Go Go.RowKit
set_option maxRecDepth 100000
def hiN(a b:Nat):Nat:=if(zF a).length<(zF b).length then b else a
def loN(a b:Nat):Nat:=if(zF a).length<(zF b).length then a else b
theorem cmH(a b:Nat):hiN a b+loN a b=a+b∧(zF (loN a b)).length≤(zF (hiN a b)).length:=by
 unfold hiN loN;split<;>omega
theorem yM(h:n<BIG):(zF n).length≤256:=by
 have:=@bcD n;omega
theorem cmG(ha:a<BIG)(hb:b<BIG):hiN a b<BIG:=by unfold hiN;split<;>assumption
def clS(P Q:Nat)(b:Nat)(H:Heap):Nat→Env→Heap→Prop:=λk env H1=>∃(i c:Nat)(zs:List Nat),i≤(zF P).length∧zs.length=(zF P).length+1∧Limbs zs∧c≤1∧val (zs.take i)+4294967296^i*c=val ((zF P).take i)+val ((zF Q).take i)∧env=[(0,qX P),(1,qX Q),(6,.mslice (some ⟨b,0,none⟩) ((zF P).length+1) ((zF P).length+1)),(7,.int .u32 (c:Int)),(30,.int .i64 ((zF P).length:Int)),(31,.int .i64 (i:Int))]∧H1=H.set b (.box 210 (U .u32 zs))∧k=(zF P).length-i
theorem bdJ(xs:List Nat)(tl:Tail)(hx:Limbs xs)(hl:xs.length≤1000000)(ys:List Nat)(tl2:Tail)(hy:Limbs ys)(hm:ys.length≤1000000)(H:Heap):ACall prog 107 [.slice 1 (U .u32 xs) tl,.slice 1 (U .u32 ys) tl2] H (λy H'=>y=ceO (val xs+val ys)∧H'=H):=by
 refine ACall.of_body func107 rfl ntmps107 results107 rfl ?_;refine .sr ?_;refine .p rfl (zE (aeH (sz:=1) (tl:=.shared))) ?_;refine .p rfl (zE zJ) (.ng (.seq (.sr (.mv rfl rfl (.mv rfl rfl (.e rfl (aeT U314 Z159 V159 rfl (tm rfl) (.inl rfl) ⟨rfl,rfl⟩ (tm rfl) (.inl rfl) ⟨rfl,rfl⟩) (.cl rfl C193 (evs1 rfl) (aiE _ _ aB aB _ _ _ aB aB _) (.ng ?_))))))));refine AWP.cond (tm rfl) (λhc13=>?_) (λhc13=>?_)
 ·try simp only[aT]at hc13
  refine .sr ?_;refine .p rfl (zE (aeH (sz:=1) (tl:=.shared))) ?_;refine .p rfl (zE zJ) (.ng (.ret ?_));refine Next.rt ?_;refine Ret.go (.cons (.tmp _ _ rfl) (.cons (.tmp _ _ rfl) .nil)) _ (hRa _) ?_;refine⟨?_,rfl⟩;rw[ceO,baZ aA];rfl
 try simp only[aR]at hc13
 refine .skip ?_;refine Next.go ?_;refine .sr (.mv rfl rfl (.cl rfl C194 (evs1 rfl) (aaG _ _ aB aB _) (.mv rfl rfl (.cl rfl C194 (evs1 rfl) (aaG _ _ aB aB _) (.as rfl rfl (.as rfl rfl (.ng ?_)))))));refine AWP.seqToL [(0,qX (hiN (val xs) (val ys))),(1,qX (loN (val xs) (val ys)))] [4,5] ?_ ?_
 ·refine .sr (.mv rfl rfl (.p rfl (qB U159 (tm rfl)) (.mv rfl rfl (.p rfl (qB U159 (tm rfl)) (.p rfl (aaH (tm rfl) (tm rfl)) (.ng ?_))))));refine AWP.cond (tm rfl) (λhc22=>?_) (λhc22=>?_)
  ·try simp only[aT]at hc22
   refine .region (.mv rfl rfl (.mv rfl rfl (.as rfl rfl (.as rfl rfl (.nil ?_)))));exact⟨rfl,(zR rfl (by simp only[hiN];split<;>first|rfl|omega) (zR rfl (by simp only[loN];split<;>first|rfl|omega) (zK rfl (zK rfl yF)))),rfl⟩
  try simp only[aR,cU]at hc22
  refine .skip ?_;exact⟨rfl,(zR rfl (by simp only[hiN];split<;>first|rfl|omega) (zR rfl (by simp only[loN];split<;>first|rfl|omega) (zK rfl (zK rfl yF)))),rfl⟩
 refine AWP.sub [(0,_),(1,_),(4,_),(5,_)] (zK rfl (zK rfl (zK rfl (zK rfl yF)))) ?_;have hs:=cmH (val xs) (val ys);have h256:=yM (cmG (a:=val xs) (b:=val ys) aA aA)
 revert hs h256
 generalize hiN (val xs) (val ys)=P;generalize loN (val xs) (val ys)=Q;intro hs h256;refine .sr (.mv rfl rfl (.p rfl (qB U159 (tm rfl)) (.p rfl (yZ (tm rfl) zJ aA) (.s rfl (yQ ((zF P).length+1) U159 typeInfo210 Z210 V210 (tm rfl) (tm rfl) aA aA aC aA) ?_))));rintro _ _ ⟨b28,rfl,hb28,hH⟩;obtain rfl:=hH.symm;refine .as rfl rfl (.nr (.p rfl (zE (yB 0)) (.ng (.seq (.sr (.mv rfl rfl (.p rfl (qB U159 (tm rfl)) (.p rfl (zG zJ) ?_))))))));refine .ng (.block ?_);refine AWP.loopW (clS P Q b28 H) ((zF P).length) ⟨0,0,List.replicate ((zF P).length+1) 0,Nat.zero_le _,by simp,Limbs.rep aA,by omega,rfl,rfl,rfl,rfl⟩ (zK rfl (zK rfl (zK rfl (zK rfl (zK rfl (zK rfl yF)))))) (hRa _) ?_;rintro _ _ _ ⟨i,c,zs,hi,hz,hzl,hc,hv,rfl,rfl,hk⟩;refine .sr (.p rfl (aaH (tm rfl) (tm rfl)) (.ng (.seq ?_)));refine AWP.cond (tm rfl) (λhc32=>?_) (λhc32=>?_)
 ·try simp only[aT]at hc32
  refine .skip ?_;refine Next.go ?_;refine .seq (.block (.sr (.mv rfl rfl (.as rfl rfl (.nr (.p rfl (zE (yB 0)) (.ng ?_)))))));refine AWP.seqToL [(9,.int .u32 (((zF Q).getD i 0:Nat):Int))] [0,1,6,7,30,31,8] ?_ ?_
  ·refine .sr (.mv rfl rfl (.mv rfl rfl (.p rfl (qB U159 (tm rfl)) (.p rfl (aaH (tm rfl) (tm rfl)) (.ng ?_)))));refine AWP.cond (tm rfl) (λhc37=>?_) (λhc37=>?_)
   ·try simp only[aT]at hc37
    refine .region (.mv rfl rfl (.mv rfl rfl (.p rfl (zV (i) U159 Z210 (tm rfl) (tm rfl) aA aA) (.p rfl (zW G210 (tm rfl)) (.as rfl rfl (.nil ?_))))));exact⟨rfl,(zR rfl aD (zK rfl (zK rfl (zK rfl (zK rfl (zK rfl (zK rfl (zK rfl yF)))))))),rfl⟩
   try simp only[aR,cU]at hc37
   refine .skip ?_;exact⟨rfl,(zR rfl (by(rw[aeX aA])) (zK rfl (zK rfl (zK rfl (zK rfl (zK rfl (zK rfl (zK rfl yF)))))))),rfl⟩
  refine AWP.sub [(9,_),(0,_),(1,_),(6,_),(7,_),(30,_),(31,_),(8,_)] (zK rfl (zK rfl (zK rfl (zK rfl (zK rfl (zK rfl (zK rfl (zK rfl yF)))))))) ?_;refine .region (.mv rfl rfl (.mv rfl rfl (.mv rfl rfl (.mv rfl rfl (.p rfl (zV (i) U159 Z210 (tm rfl) (tm rfl) aA aA) (.p rfl (zW G210 (tm rfl)) (.mv rfl rfl (.mv rfl rfl ?_))))))));refine .cl rfl call196 (evs3 rfl rfl rfl) (atQ _ _ _ (Limbs.getD (zH _) _) (Limbs.getD (zH _) _) aA _) (.mv rfl rfl (.p rfl (aaW (tm rfl) rfl) (.p rfl (aaW (tm rfl) rfl) (.p rfl (yG (i) U159 Z210 (tm rfl) (tm rfl) aA aA) (.e0 (qE Z210 (tm rfl) (tm rfl) (oS _ _ _) aA) ?_)))));try first|rw[sS]|rw[sU aB]
  refine .as rfl rfl (.nil ?_);refine Block.go ?_;refine Next.go ?_;refine .region (.p rfl (yZ (tm rfl) zJ aA) (.mv rfl rfl (.ng ?_)));refine Round.mk (J:=clS P Q b28 H) ⟨i+1,_,_,by omega,by simpa using hz,Limbs.set hzl aA,by have h1:=Limbs.getD (zH P) i;have h2:=Limbs.getD (zH Q) i;omega,bkV aA hv,rfl,rfl,rfl⟩ (zK rfl (zK rfl (zK rfl (zK rfl (zK rfl (zK rfl yF)))))) (hRa _) aA
 try simp only[aR,cU]at hc32
 refine .exit ?_;refine Next.ex ?_;refine Next.ex ?_;refine Block.hit ?_;refine Next.go ?_;refine .sr (.mv rfl rfl (.mv rfl rfl (.p rfl (qB U159 (tm rfl)) (.mv rfl rfl (.p rfl (yG ((zF P).length) U159 Z210 (tm rfl) (tm rfl) aA aA) (.e0 (qE Z210 (tm rfl) (tm rfl) (oS _ _ _) aA) ?_))))));try first|rw[sS]|rw[sU aB]
 refine .ng (.seq ?_);have hi2:i=(zF P).length:=by omega
 subst hi2;have hz2:zs.length≤(zF P).length+1:=by omega
 have hz3:(zF P).length<zs.length:=by omega
 have hv2:=cjB hz rfl hs.2 hv;rw[zN,zN]at hv2;refine AWP.frzU (t:=6) rfl hb28 (by simp<;>omega) (aZ _) (by simp only[zQ];omega) ?_;rw[aY (by simp<;>omega)];have hz4:=Limbs.set hzl (i:=(zF P).length) (v:=c) aA;have hz5:(zs.set (zF P).length c).length≤1000000:=by simp<;>omega
 refine .region (.mv rfl rfl (.cl rfl call195 (evs1 rfl) (awI _ _ aB aB _) (.p rfl (aaW (tm rfl) rfl) (.p rfl (aaW (tm rfl) rfl) (.as rfl rfl (.as rfl rfl (.ng (.ret ?_))))))));refine Ret.go (.cons (.tmp _ _ rfl) (.cons (.tmp _ _ rfl) .nil)) _ (hRa _) ?_;refine⟨?_,rfl⟩;rw[←hs.1,←hv2];rfl
theorem apO(h:∀j,n≤j→zs.getD j 0=0)(hi:i<n):∀j,n≤j→(zs.set i v).getD j 0=0:=λj hj=>by
 rw[getD_set_ne aA,h j hj]
def ckT(P Q:Nat)(b:Nat)(H:Heap):Nat→Env→Heap→Prop:=λk env H1=>∃(i:Nat)(zs:List Nat),i≤(zF P).length∧zs.length=(zF P).length+(zF Q).length∧Limbs zs∧(∀j,i+(zF Q).length≤j→zs.getD j 0=0)∧val zs=val ((zF P).take i)*val (zF Q)∧env=[(0,qX P),(1,qX Q),(6,.mslice (some ⟨b,0,none⟩) ((zF P).length+(zF Q).length) ((zF P).length+(zF Q).length)),(26,.int .i64 ((zF P).length:Int)),(27,.int .i64 (i:Int))]∧H1=H.set b (.box 210 (U .u32 zs))∧k=(zF P).length-i
def ceH(P Q:Nat)(b i:Nat)(o0:List Nat)(H:Heap):Nat→Env→Heap→Prop:=λk env H1=>∃(j c:Nat)(zs:List Nat),j≤(zF Q).length∧zs.length=(zF P).length+(zF Q).length∧Limbs zs∧c<4294967296∧(∀j,i+(zF Q).length≤j→zs.getD j 0=0)∧val zs+4294967296^(i+j)*c=val o0+4294967296^i*(zF P).getD i 0*val ((zF Q).take j)∧env=[(0,qX P),(1,qX Q),(6,.mslice (some ⟨b,0,none⟩) ((zF P).length+(zF Q).length) ((zF P).length+(zF Q).length)),(26,.int .i64 ((zF P).length:Int)),(27,.int .i64 (i:Int)),(7,.int .i64 (i:Int)),(8,.int .u64 (c:Int)),(31,.int .i64 ((zF Q).length:Int)),(32,.int .i64 (j:Int))]∧H1=H.set b (.box 210 (U .u32 zs))∧k=(zF Q).length-j
theorem bxA(xs:List Nat)(tl:Tail)(hx:Limbs xs)(hl:xs.length≤1000000)(ys:List Nat)(tl2:Tail)(hy:Limbs ys)(hm:ys.length≤1000000)(H:Heap):ACall prog 106 [.slice 1 (U .u32 xs) tl,.slice 1 (U .u32 ys) tl2] H (λy H'=>y=cmA (val xs) (val ys)∧H'=H):=by
 refine ACall.of_body func106 rfl ntmps106 results106 rfl ?_;refine .sr ?_;refine .p rfl (zE (aeH (sz:=1) (tl:=.shared))) ?_;refine .p rfl (zE zJ) (.ng (.seq (.sr (.mv rfl rfl (.mv rfl rfl (.e rfl (aeT U314 Z159 V159 rfl (tm rfl) (.inl rfl) ⟨rfl,rfl⟩ (tm rfl) (.inl rfl) ⟨rfl,rfl⟩) (.cl rfl C193 (evs1 rfl) (aiE _ _ aB aB _ _ _ aB aB _) (.ng ?_))))))));refine AWP.cond (tm rfl) (λhc14=>?_) (λhc14=>?_)
 ·try simp only[aT]at hc14
  refine .sr ?_;refine .p rfl (zE (aeH (sz:=1) (tl:=.shared))) ?_;refine .p rfl (zE zJ) (.ng (.ret ?_));refine Next.rt ?_;refine Ret.go (.cons (.tmp _ _ rfl) (.cons (.tmp _ _ rfl) .nil)) _ (hRa _) ?_;refine⟨?_,rfl⟩;rw[cmA,baZ aA];rfl
 try simp only[aR]at hc14
 refine .skip ?_;refine Next.go ?_;refine .sr (.mv rfl rfl (.cl rfl C194 (evs1 rfl) (aaG _ _ aB aB _) (.mv rfl rfl (.cl rfl C194 (evs1 rfl) (aaG _ _ aB aB _) (.as rfl rfl (.as rfl rfl (.ng (.seq ?_))))))));have h256:=yM (n:=val xs) aA;have h257:=yM (n:=val ys) aA;have hmul:cmA (val xs) (val ys)=ceO (val xs*val ys):=by
  exact bmG ⟨λh=>h.2.2,λh=>⟨by omega,by omega,h⟩⟩
 rw[hmul];generalize val xs=P at *;generalize val ys=Q at *;refine .region (.mv rfl rfl (.p rfl (qB U159 (tm rfl)) (.mv rfl rfl (.p rfl (qB U159 (tm rfl)) (.p rfl (yZ (tm rfl) (tm rfl) aA) (.s rfl (yQ ((zF P).length+(zF Q).length) U159 typeInfo210 Z210 V210 (tm rfl) (tm rfl) aA aA aC aA) ?_))))));rintro _ _ ⟨b24,rfl,hb24,hH⟩;obtain rfl:=hH.symm;refine .as rfl rfl (.ng (.seq (.sr (.mv rfl rfl (.p rfl (qB U159 (tm rfl)) (.p rfl (zG zJ) (.ng (.block ?_))))))));refine AWP.loopW (ckT P Q b24 H) ((zF P).length) ⟨0,List.replicate _ 0,Nat.zero_le _,by simp,Limbs.rep aA,λj _=>bkC _ _,by rw[alD,fH,val,dO],rfl,rfl,rfl⟩ (zK rfl (zK rfl (zK rfl (zK rfl (zK rfl yF))))) (hRa _) ?_;rintro _ _ _ ⟨i,zs0,hi,hz0,hzl0,h0,hv0,rfl,rfl,hk⟩;refine .sr (.p rfl (aaH (tm rfl) (tm rfl)) (.ng (.seq ?_)));refine AWP.cond (tm rfl) (λhc28=>?_) (λhc28=>?_)
 ·try simp only[aT]at hc28
  refine .skip ?_;refine Next.go ?_;refine .seq (.block (.sr (.mv rfl rfl (.as rfl rfl (.nr (.p rfl (zE (yB 0)) (.ng (.seq ?_))))))));refine .sr (.mv rfl rfl (.p rfl (qB U159 (tm rfl)) (.p rfl (zG zJ) (.ng (.block ?_)))));refine AWP.loopW (ceH P Q b24 i zs0 H) ((zF Q).length) ⟨0,0,zs0,Nat.zero_le _,hz0,hzl0,by omega,h0,by rw[fH,val,dJ,dJ],rfl,rfl,rfl⟩ (zK rfl (zK rfl (zK rfl (zK rfl (zK rfl (zK rfl (zK rfl (zK rfl (zK rfl yF))))))))) (hRa _) ?_;rintro _ _ _ ⟨j,c,zs,hj,hz,hzl,hc,hzr,hv,rfl,rfl,hk2⟩;refine .sr (.p rfl (aaH (tm rfl) (tm rfl)) (.ng (.seq ?_)));refine AWP.cond (tm rfl) (λhc33=>?_) (λhc33=>?_)
  ·try simp only[aT]at hc33
   have hPi:=Limbs.getD (zH P) i;have hQj:=Limbs.getD (zH Q) j;have hZ:=Limbs.getD hzl (i+j);have hmf:=bjN hPi hQj hZ hc;refine .skip ?_;refine Next.go ?_;refine .seq (.block (.sr (.mv rfl rfl (.as rfl rfl (.ng (.seq ?_))))));refine AWP.draw [(0,true),(1,true),(2,true),(3,true),(4,true),(5,true),(6,true),(7,true),(8,true),(9,true),(10,true),(11,true),(12,true),(13,true),(14,true),(15,true),(19,true),(16,false),(17,true),(18,true),(20,true),(21,true)] rfl aE ?_;refine .p rfl rfl (zG (tm rfl)) (.p rfl rfl (zG (tm rfl)) (.p rfl rfl (zV (i) U159 Z210 (tm rfl) (tm rfl) aA aA) (.p rfl rfl (zW G210 (tm rfl)) (.p rfl rfl (qD U210 U25 (tm rfl) (wrapN64 aA)) (.p rfl rfl (zG (tm rfl)) (.p rfl rfl (zG (tm rfl)) (.p rfl rfl (zV (j) U159 Z210 (tm rfl) (tm rfl) aA aA) (.p rfl rfl (zW G210 (tm rfl)) ?_))))))));refine .p rfl rfl (qD U210 U25 (tm rfl) (wrapN64 aA)) (.p rfl rfl (adP (tm rfl) (tm rfl) aA) (.p rfl rfl (zG (tm rfl)) (.p rfl rfl (zG (tm rfl)) (.p rfl rfl (zG (tm rfl)) (.p rfl rfl (yZ (tm rfl) (tm rfl) aA) (.p rfl rfl (yG (i+j) U159 Z210 (tm rfl) (tm rfl) aA aA) (.p rfl rfl (zG (tm rfl)) (.s rfl rfl (qJ G210 (tm rfl) (oS _ _ _) aA) ?_))))))));rintro _ _ ⟨rfl,hH⟩;obtain rfl:=hH.symm;refine .p rfl rfl (qD U210 U25 (tm rfl) (wrapN64 aA)) (.p rfl rfl (qF (tm rfl) (tm rfl) aA) (.p rfl rfl (qF (tm rfl) (tm rfl) aB) (.p rfl rfl (zE (tm rfl)) (.nil ?_))));refine Next.go ?_;refine .region (.mv rfl rfl (.mv rfl rfl (.mv rfl rfl (.p rfl (yZ (tm rfl) (tm rfl) aA) (.mv rfl rfl (.p rfl (acX U25 U210 rfl (tm rfl)) (.mv rfl rfl (.p rfl (aaM (tm rfl) (yB 32) aB) ?_))))))));refine .p rfl (yG (i+j) U159 Z210 (tm rfl) (tm rfl) aA aA) (.e0 (qE Z210 (tm rfl) (tm rfl) (oS _ _ _) aA) ?_);try first|rw[sS]|rw[sU aB]
   refine .as rfl rfl (.nil ?_);refine Block.go ?_;refine Next.go ?_;refine .region (.p rfl (yZ (tm rfl) zJ aA) (.mv rfl rfl (.ng ?_)));refine Round.mk (J:=ceH P Q b24 i zs0 H) ⟨j+1,_,_,by omega,by simpa using hz,Limbs.set hzl aA,by omega,λq hq=>apO hzr aA q hq,bjM aA hv,rfl,rfl,rfl⟩ (zK rfl (zK rfl (zK rfl (zK rfl (zK rfl (zK rfl (zK rfl (zK rfl (zK rfl yF))))))))) (hRa _) aA
  try simp only[aR,cU]at hc33
  have hj2:j=(zF Q).length:=by omega
  subst hj2;have hcm:c%2^IntKind.u32.bits=c:=bH hc;refine .exit ?_;refine Next.ex ?_;refine Next.ex ?_;refine Block.hit ?_;refine Next.go ?_;refine .region (.mv rfl rfl (.mv rfl rfl (.mv rfl rfl (.p rfl (qB U159 (tm rfl)) (.p rfl (yZ (tm rfl) (tm rfl) aA) (.mv rfl rfl (.p rfl (acX U25 U210 rfl (tm rfl)) (.p rfl (yG (i+(zF Q).length) U159 Z210 (tm rfl) (tm rfl) aA aA) ?_))))))));refine .e0 (qE Z210 (tm rfl) (tm rfl) (oS _ _ _) aA) ?_;try first|rw[sS]|rw[sU aB]
  refine .nil ?_;refine Block.go ?_;refine Next.go ?_;refine .region (.p rfl (yZ (tm rfl) zJ aA) (.mv rfl rfl (.ng ?_)));rw[hcm];refine Round.mk (J:=ckT P Q b24 H) ⟨i+1,_,by omega,by simpa using hz,Limbs.set hzl hc,λj hj=>apO (n:=i+1+(zF Q).length) (λj hj=>hzr j aA) aA j hj,btZ rfl aA (hzr _ (aZ _)) hv0 hv,rfl,rfl,rfl⟩ (zK rfl (zK rfl (zK rfl (zK rfl (zK rfl yF))))) (hRa _) aA
 try simp only[aR,cU]at hc28
 refine .exit ?_;refine Next.ex ?_;refine Next.ex ?_;refine Block.hit ?_;refine Next.go ?_;refine .seq ?_;have hi2:i=(zF P).length:=by omega
 subst hi2;rw[cX,zN,zN]at hv0;refine AWP.frzU (t:=6) rfl hb24 aA (aZ _) (by simp only[zQ];omega) ?_;rw[aY aA];have hz5:zs0.length≤1000000:=by omega
 refine .region (.mv rfl rfl (.cl rfl call195 (evs1 rfl) (awI _ _ aB aB _) (.p rfl (aaW (tm rfl) rfl) (.p rfl (aaW (tm rfl) rfl) (.as rfl rfl (.as rfl rfl (.ng (.ret ?_))))))));refine Ret.go (.cons (.tmp _ _ rfl) (.cons (.tmp _ _ rfl) .nil)) _ (hRa _) ?_;refine⟨?_,rfl⟩;rw[←hv0];rfl
end
end Go.Proofs.YteedncdcbgplfaaGreatDoor
