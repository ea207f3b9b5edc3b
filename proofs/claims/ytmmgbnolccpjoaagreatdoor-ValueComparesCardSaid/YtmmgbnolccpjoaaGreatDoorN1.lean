import Derived.Test.YtmmgbnolccpjoaaGreatDoorYd
set_option maxHeartbeats 1000000
namespace Go.Proofs.YtmmgbnolccpjoaaGreatDoor
open Go.Proofs.Tryz
variable{a b c i k n r v x:Nat}{xs ys zs:List Nat}
def Limbs(xs:List Nat):Prop:=∀x,x∈xs→x<4294967296
def val:List Nat→Nat
 | []=>0
 |x::xs=>x+4294967296*val xs
def yX:List Nat→Nat
 | []=>0
 |x::xs=>if yX xs=0∧x=0 then 0 else yX xs+1
def ayH:Nat→Nat→List Nat
 |0,_=>[]
 |_+1,0=>[]
 |f+1,n+1=>(n+1)%4294967296::ayH f ((n+1)/4294967296)
def zE(n:Nat):List Nat:=ayH n n
theorem auN:∀(f g n:Nat),n≤f→n≤g→ayH f n=ayH g n
 |0,0,_,_,_=>rfl
 |0,g+1,n,h,_=>by
  have:n=0:=by omega
  subst this;rfl
 |f+1,0,n,_,h=>by
  have:n=0:=by omega
  subst this;rfl
 |f+1,g+1,0,_,_=>rfl
 |f+1,g+1,n+1,h1,h2=>by
  unfold ayH;rw[auN f g ((n+1)/4294967296) aA aA]
theorem aaX:zE 0=[]:=rfl
theorem qR(h:0<n):zE n=n%4294967296::zE (n/4294967296):=by
 unfold zE;obtain⟨m,rfl⟩:∃m,n=m+1:=⟨n-1,by omega⟩;show(m+1)%4294967296::ayH m ((m+1)/4294967296)=_;rw[auN m ((m+1)/4294967296) ((m+1)/4294967296) aA (aV _)]
theorem zG(n:Nat):val (zE n)=n:=by
 induction n using Nat.strongRecOn with
 |ind n ih=>
  rcases bJ n with h|h
  ·subst h;rfl
  rw[qR h,val,ih _ aA];omega
theorem zF(n:Nat):Limbs (zE n):=by
 induction n using Nat.strongRecOn with
 |ind n ih=>
  rcases bJ n with h|h
  ·subst h;intro x hx;simp[aaX]at hx
  rw[qR h];intro x hx;rcases cP.1 hx with rfl|hx
  ·omega
  exact ih _ aA x hx
theorem Limbs.cons{x:Nat}{xs:List Nat}(h:Limbs (x::xs)):x<4294967296∧Limbs xs:=⟨h x aF,λy hy=>h y (by simp[hy])⟩
theorem Limbs.mk(hx:x<4294967296)(h:Limbs xs):Limbs (x::xs):=λy hy=>by
 rcases cP.1 hy with rfl|hy
 ·exact hx
 exact h y hy
theorem Limbs.nil:Limbs []:=λ_ h=>by simp at h
theorem Limbs.append(h:Limbs xs)(k:Limbs ys):Limbs (xs++ys):=λy hy=>by
 rcases dP.1 hy with h1|h1
 ·exact h y h1
 exact k y h1
theorem Limbs.take(h:Limbs xs)(n:Nat):Limbs (xs.take n):=λy hy=>h y (gF hy)
theorem Limbs.drop(h:Limbs xs)(n:Nat):Limbs (xs.drop n):=λy hy=>h y (List.mem_of_mem_drop hy)
theorem Limbs.rep(h:x<4294967296):Limbs (List.replicate n x):=λy hy=>by rw[List.eq_of_mem_replicate hy];exact h
theorem aaN:∀{xs:List Nat},yX xs=0→val xs=0
 | [],_=>rfl
 |x::xs,h=>by
  unfold yX at h;split at h
  ·rename_i hc;rw[val,aaN hc.1,hc.2]
  omega
theorem aaO:∀{xs:List Nat},val xs=0→yX xs=0
 | [],_=>rfl
 |x::xs,h=>by
  rw[val]at h;unfold yX;rw[aN ⟨aaO aA,by omega⟩]
theorem aeP:∀{xs:List Nat},Limbs xs→xs.take (yX xs)=zE (val xs)
 | [],_=>rfl
 |x::xs,h=>by
  obtain⟨hx,hxs⟩:=h.cons;unfold yX;split
  ·rename_i hc
   rw[val,aaN hc.1,hc.2];rfl
  rename_i hc
  rw[List.take_succ_cons,aeP hxs];have hpos:0<val (x::xs):=by
   rw[val];rcases bJ x with h0|h0
   ·rcases bJ (val xs)with h1|h1
    ·exact absurd ⟨aaO h1,h0⟩ hc
    omega
   omega
  rw[qR hpos];simp only[val];rw[show(x+4294967296*val xs)%4294967296=x by omega,show(x+4294967296*val xs)/4294967296=val xs by omega]
theorem aaU:∀(xs:List Nat),yX xs≤xs.length
 | []=>aV _
 |x::xs=>by
  unfold yX;have:=aaU xs;split<;>simp<;>omega
theorem abK(h:Limbs xs):yX xs=(zE (val xs)).length:=by
 rw[←aeP h,aS];have:=aaU xs;omega
theorem ajF(n:Nat):yX (zE n)=(zE n).length:=by rw[abK (zF n),zG]
theorem acS(hk:k<xs.length):yX (xs.take (k+1))=if xs.getD k 0=0 then yX (xs.take k)else k+1:=by
 induction xs generalizing k with
 |nil=>simp at hk
 |cons x xs ih=>
  cases k with
  |zero=>
   simp only[List.take_succ_cons,fB,cI];unfold yX;simp[yX]
  |succ k=>
   rw[List.take_succ_cons,List.take_succ_cons];have hk':k<xs.length:=by simpa using hk
   simp only[yX,ih hk',dG];by_cases h:xs.getD k 0=0
   ·rw[aN h,aN h]
   rw[aL h,aL h,aI]
theorem qS:∀(xs ys:List Nat),val (xs++ys)=val xs+4294967296^xs.length*val ys
 | [],ys=>by simp[val]
 |x::xs,ys=>by
  rw[cR,val,qS xs ys,val,aX,bQ,cA,←bH,bK (4294967296^xs.length) 4294967296];omega
theorem agG:∀{xs:List Nat},Limbs xs→val xs<4294967296^xs.length
 | [],_=>by simp[val]
 |x::xs,h=>by
  obtain⟨hx,hxs⟩:=h.cons;have:=agG hxs;rw[val,aX,bQ];omega
theorem aoV(n:Nat):val (List.replicate n 0)=0:=by
 induction n with
 |zero=>rfl
 |succ n ih=>rw[List.replicate_succ,val,ih]
theorem qK{n k:Nat}:(zE n).length≤k↔n<4294967296^k:=by
 induction k generalizing n with
 |zero=>
  rcases bJ n with h|h
  ·subst h;simp[aaX]
  rw[qR h];simp;omega
 |succ k ih=>
  rcases bJ n with h|h
  ·subst h;simp[aaX];exact bO aC
  rw[qR h,aX,Nat.add_le_add_iff_right,ih,bQ,bR aC]
theorem bfJ(h:zE a=zE b):a=b:=by rw[←zG a,h,zG]
theorem azI(hk:k<xs.length):val (xs.take (k+1))=val (xs.take k)+4294967296^k*xs.getD k 0:=by
 rw[←cV hk,qS];simp only[val,aS,dQ,cB];rw[dN aA];congr 2;rw[aR,bG hk];rfl
theorem Limbs.getD(h:Limbs xs)(k:Nat):xs.getD k 0<4294967296:=by
 rw[aR];cases hk:xs[k]? with
 |none=>simp
 |some x=>exact h x (fQ hk)
theorem copied(h:r≤xs.length):(zs.take 0++xs.take r++zs.drop (0+min xs.length r)).take r=xs.take r:=by
 rw[fB,cJ,dZ (by rw[aS];omega),List.take_take,Nat.min_self]
def BIG:Nat:=4294967296^256
section
open Go Go.RowKit
set_option maxRecDepth 100000
def qL(n:Nat):AV:=.slice 1 (U .u32 (zE n)) .shared
def bvR(xs:List Nat)(tl:Tail)(H:Heap):Nat→Env→Heap→Prop:=λk env H1=>∃n:Nat,n≤xs.length∧yX (xs.take n)=yX xs∧env=[(0,.slice 1 (U .u32 xs) tl),(3,.int .i64 (n:Int))]∧H=H1∧k=n
theorem adO(xs:List Nat)(tl:Tail)(hx:Limbs xs)(hl:xs.length≤1000000):Fn 314 [.slice 1 (U .u32 xs) tl] (.int .i64 (yX xs:Int)):=by
 intro H;refine .of_body func314 rfl ntmps314 results314 rfl ?_;refine AY ?_;refine .loopW (bvR xs tl H) (xs.length) ⟨xs.length,aV _,by rw[dK],rfl,rfl,rfl⟩ sX (hRa _) ?_;rintro _ _ _ ⟨n,hn,hr,rfl,rfl,hk⟩;refine AX ?_;refine .seqTo 15 (.bool (decide (0<(n:Int))&&decide (((xs.getD (n-1) 0:Nat):Int)=0))) [0,3] ?_ ?_
 ·refine AY ?_;refine zC (t:=8) rfl (λhg8=>?_) (λhg8=>?_)
  ·have hh8:=hg8;try simp only[aO]at hh8
   refine AY ?_;refine .gp rfl rfl rfl aB (zW (n-1) U239 Z166 (tm rfl) (tm rfl) aA aA) ?_;refine AX ?_;refine AM ?_;refine AY ?_;exact⟨rfl,zL rfl aH sX,rfl⟩
  have hh8:=hg8;try simp only[aM,cO]at hh8
  refine AY ?_;exact⟨rfl,zL rfl aH sX,rfl⟩
 refine .sub [(15,_),(0,_),(3,_)] sX ?_;refine .cx rfl (λhc15=>?_) (λhc15=>?_)
 ·simp only[bL,aO]at hc15;refine AY ?_;have hs:=acS (xs:=xs) (k:=n-1) aA;rw[show n-1+1=n by omega,aJ]at hs;refine Round.mk ⟨n-1,by omega,by rw[←hs,hr],rfl,rfl,rfl⟩ (zI rfl (zM rfl (by rw[show((n:Int)-1)=((n-1:Nat):Int) by omega]) yJ)) (hRa _) aA
 simp only[bX,aM]at hc15;refine AY ?_;refine⟨?_,rfl⟩;have hq:n=yX xs:=by
  rcases bJ n with h0|h0
  ·subst h0;rw[←hr];rfl
  have hs:=acS (xs:=xs) (k:=n-1) aA;rw[show n-1+1=n by omega,aI,hr]at hs;exact hs.symm
 rw[hq];rfl
theorem aaJ(xs:List Nat)(tl:Tail)(hx:Limbs xs)(hl:xs.length≤1000000):Fn 311 [.slice 1 (U .u32 xs) tl] (qL (val xs)):=by
 intro H;have hr:=aaU xs;refine .of_body func311 rfl ntmps311 results311 rfl ?_;iterate 2 refine AX ?_
 refine AX ?_;refine AY ?_;refine .cl rfl C314 (evs1 rfl) (adO _ _ aB aB _) (.p rfl (aeD (_) U239 Z166 (tm rfl) (tm rfl) rfl aA) ?_);refine AY ?_;refine⟨?_,rfl⟩;simp only[yD,qL];rw[aeP hx]
theorem awC(x y c:Nat)(hx:x<4294967296)(hy:y<4294967296)(hc:c≤1)(H:Heap):ACall prog 339 [.int .u32 (x:Int),.int .u32 (y:Int),.int .u32 (c:Int)] H (λz H'=>z= .tuple [.int .u32 ((x+y+c)%4294967296:Nat),.int .u32 ((x+y+c)/4294967296:Nat)]∧H'=H):=by
 refine .of_body func339 rfl ntmps339 results339 rfl ?_;iterate 2 refine AX ?_
 iterate 2 refine AM ?_
 refine AY ?_;refine AM ?_;refine AY ?_;refine⟨?_,rfl⟩;simp only[yD,IntKind.bits];rw[show(x+y+c)/2^32%2^32=(x+y+c)/4294967296 by omega]
end
def zY(n:Nat):Nat:=if n=0 then 0 else n.log2+1
theorem bzS:zY 0=0:=rfl
theorem ceR(h:0<n):zY n=n.log2+1:=aI
theorem yQ{n k:Nat}:zY n≤k↔n<2^k:=by
 unfold zY;split
 ·rename_i h;subst h;simp;exact bO aC
 rename_i h
 rw[Nat.add_one_le_iff,Nat.log2_lt h]
theorem qQ{n k:Nat}:k<zY n↔2^k≤n:=by
 have:=@yQ n k;omega
theorem agD{m:Nat}(h:2^k≤n)(hm:m=n/2^k):zY n=k+zY m:=by
 subst hm;have hp:0<2^k:=bO aC;have h1:0<n/2^k:=Nat.div_pos h hp;have key:∀j,zY n≤k+j↔zY (n/2^k)≤j:=λj=>by
  rw[yQ,yQ,bR hp,bI,bK]
 have ha:=(key (zY (n/2^k))).2 (aV _);have hk:k≤zY n:=cT (qQ.2 h);have hb:=(key (zY n-k)).1 aA;omega
theorem clA(hx:x<4294967296):∃y n:Nat,(if 65536≤x then x/65536 else x)=y∧(if 65536≤x then(16:Int)else 0)=n∧y<65536∧zY x=n+zY y:=by
 by_cases h:65536≤x
 ·exact⟨x/65536,16,aN h,aN h,by omega,agD (k:=16) h rfl⟩
 exact⟨x,0,aL h,aL h,by omega,by omega⟩
theorem cnK{y:Nat}(hy:y<65536):∃z m:Nat,(if 256≤y then y/256 else y)=z∧(if 256≤y then(n:Int)+8 else n)=m∧z<256∧n+zY y=m+zY z:=by
 by_cases h:256≤y
 ·exact⟨y/256,n+8,aN h,by rw[aN h];simp,by omega,by rw[agD (n:=y) (k:=8) (m:=y/256) h rfl];omega⟩
 exact⟨y,n,aL h,aL h,by omega,rfl⟩
def len8tab:List UInt8:=[0,1,2,2,3,3,3,3,4,4,4,4,4,4,4,4,5,5,5,5,5,5,5,5,5,5,5,5,5,5,5,5,6,6,6,6,6,6,6,6,6,6,6,6,6,6,6,6,6,6,6,6,6,6,6,6,6,6,6,6,6,6,6,6,7,7,7,7,7,7,7,7,7,7,7,7,7,7,7,7,7,7,7,7,7,7,7,7,7,7,7,7,7,7,7,7,7,7,7,7,7,7,7,7,7,7,7,7,7,7,7,7,7,7,7,7,7,7,7,7,7,7,7,7,7,7,7,7]++List.replicate 128 8
theorem cjR{z:Nat}(h:z<256):(len8tab.getD z 0).toNat=zY z:=by
 have key:∀z:Fin 256,(len8tab.getD z.1 0).toNat=zY z.1:=by decide+kernel
 exact key ⟨z,h⟩
theorem alM(h:0<n):zY n=32*((zE n).length-1)+zY ((zE n).getD ((zE n).length-1) 0):=by
 induction n using Nat.strongRecOn with
 |ind n ih=>
  rw[qR h];rcases bJ (n/4294967296)with h0|h0
  ·rw[h0,aaX];simp;congr 1;omega
  have:=ih _ aA h0;have hpos:0<(zE (n/4294967296)).length:=by rw[qR h0];simp
  rw[agD (n:=n) (k:=32) aA rfl,show(2:Nat)^32=4294967296 by decide,this,aX,show(zE (n/4294967296)).length+1-1=((zE (n/4294967296)).length-1)+1 by omega,dG];omega
theorem ahL(h:(zE a).length<(zE b).length):a<b:=by
 rcases cG a b with h1|h1
 ·exact h1
 have h2:(zE a).length≤(zE a).length:=aV _;rw[qK]at h2;have h3:=qK.2 (aU h1 h2);omega
theorem aiU(hx:Limbs xs)(hy:Limbs ys)(hl:xs.length=ys.length)(hk:k<xs.length)(hs:xs.drop (k+1)=ys.drop (k+1))(h:xs.getD k 0<ys.getD k 0):val xs<val ys:=by
 have e1:val xs=val (xs.take k)+4294967296^k*(xs.getD k 0+4294967296*val (xs.drop (k+1))):=by
  conv=>lhs;rw[←dB k xs,qS,cD hk,val,aS,dN aA]
  rw[aR,bG hk];rfl
 have hk':k<ys.length:=by omega
 have e2:val ys=val (ys.take k)+4294967296^k*(ys.getD k 0+4294967296*val (ys.drop (k+1))):=by
  conv=>lhs;rw[←dB k ys,qS,cD hk',val,aS,dN aA]
  rw[aR,bG hk'];rfl
 have h1:=agG (hx.take k);rw[aS,dN aA]at h1;rw[e1,e2,hs];generalize val (ys.drop (k+1))=z;have h2:4294967296^k*(xs.getD k 0+4294967296*z+1)≤4294967296^k*(ys.getD k 0+4294967296*z):=bV _ aA;rw[cA,fG]at h2;omega
section
open Go Go.RowKit
set_option maxRecDepth 100000
theorem aqA(xs:List Nat)(tl:Tail)(hx:Limbs xs)(hl:xs.length≤1000000):Fn 278 [.slice 1 (U .u32 xs) tl] (qL (val xs)):=by
 intro H;have hr:=aaU xs;refine .of_body func278 rfl ntmps278 results278 rfl ?_;iterate 2 refine AX ?_
 refine AX ?_;refine AY ?_;refine .cl rfl C314 (evs1 rfl) (adO _ _ aB aB _) (.s rfl (yP (_) U239 typeInfo166 Z166 V166 (tm rfl) (tm rfl) rfl rfl aC aA) ?_);rintro _ _ ⟨b6,rfl,hb6,hH⟩;obtain rfl:=hH.symm;refine AY ?_;refine .e rfl (aoZ U239 Z166 (tm rfl) (tm rfl) (oS _ _ _) (by(simp;done))) ?_;try first|rw[sS]|rw[sU aB]
 iterate 8 refine AX ?_
 refine .frzU (t:=2) rfl hb6 (by simp<;>omega) (aV _) (by simp only[zJ];omega) ?_;refine AY ?_;refine⟨?_,rfl⟩;simp only[yD,qL];rw[←aeP hx,copied hr]
theorem avU(x:Nat)(hx:x<4294967296):Fn 313 [.int .u32 (x:Int)] (.int .i64 (zY x:Int)):=by
 intro H;have hb32:∀z,z<256→zY z≤8:=λz hz=>yQ.2 hz;refine .of_body func313 rfl ntmps313 results313 rfl ?_;iterate 5 refine AX ?_
 refine .seqToL [(0,.int .u32 ((if 65536≤x then x/65536 else x:Nat):Int)),(2,.int .i64 (if 65536≤x then 16 else 0))] [] ?_ ?_
 ·iterate 3 refine AX ?_
  refine AM ?_;refine AY ?_;refine .cx rfl (λhc4=>?_) (λhc4=>?_)
  ·refine AY ?_;refine .p rfl (axW (tm rfl) (zR 16) aB) ?_;refine AY ?_;exact⟨rfl,(zM rfl (by rw[aJ]) (zM rfl (by rw[aJ]) yJ)),rfl⟩
  refine AX ?_;exact⟨rfl,(zM rfl (by rw[aI]) (zM rfl (by rw[aI]) yJ)),rfl⟩
 refine .sub [(0,_),(2,_)] sX ?_;obtain⟨y,n,hy,hn,hyx,hbl⟩:=clA hx;rw[hy,hn];refine .seqToL [(0,.int .u32 ((if 256≤y then y/256 else y:Nat):Int)),(2,.int .i64 (if 256≤y then(n:Int)+8 else n))] [] ?_ ?_
 ·iterate 3 refine AX ?_
  refine AM ?_;refine AY ?_;refine .cx rfl (λhc8=>?_) (λhc8=>?_)
  ·refine AY ?_;refine .p rfl (axW (tm rfl) (zR 8) aA) ?_;refine AY ?_;exact⟨rfl,(zM rfl (by rw[aJ]) (zM rfl (by rw[aJ]) yJ)),rfl⟩
  refine AX ?_;exact⟨rfl,(zM rfl (by rw[aI]) (zM rfl (by rw[aI]) yJ)),rfl⟩
 refine .sub [(0,_),(2,_)] sX ?_;obtain⟨z,m,hz,hm,hzx,hbz⟩:=cnK (n:=n) hyx;rw[hz,hm];have hz8:=hb32 z hzx;have hx32:=(yQ (n:=x) (k:=32)).2 hx;refine AY ?_;refine .p rfl (baR (r:=zY z) len8tab U9 (zO rfl) (tm rfl) aD (by simp only[IntKind.bits];show _<256;omega) (by rw[show z%2^IntKind.u8.bits=z from bE hzx];exact cjR hzx)) ?_;refine AY ?_;refine⟨?_,rfl⟩;rw[hbl,hbz];simp[yD]
end
theorem ahM(h:xs.length≤i):xs.getD i 0=0:=by
 grind
theorem yW(xs:List Nat)(i:Nat):val (xs.take (i+1))=val (xs.take i)+4294967296^i*xs.getD i 0:=by
 rcases cG i xs.length with h|h
 ·exact azI h
 rw[ahM h,bA aA,bA h];omega
theorem ahA(h:i<zs.length):val ((zs.set i v).take (i+1))=val (zs.take i)+4294967296^i*v:=by
 rw[yW,List.take_set_of_le (aV _)];rw[aR,List.getElem?_set_self h];rfl
theorem Limbs.set(h:Limbs zs)(hv:v<4294967296):Limbs (zs.set i v):=λy hy=>by
 rcases List.mem_or_eq_of_mem_set hy with h1|h1
 ·exact h y h1
 rw[h1];exact hv
theorem atJ(h:Limbs xs):256<yX xs↔BIG≤val xs:=by
 rw[abK h];have:=@qK (val xs) 256;unfold BIG;omega
theorem bfK{n:Nat}:256<(zE n).length↔BIG≤n:=by
 have:=@qK n 256;unfold BIG;omega
theorem boV(hi:i<zs.length)(h:val (zs.take i)+4294967296^i*c=val (xs.take i)+val (ys.take i)):
  val ((zs.set i ((xs.getD i 0+ys.getD i 0+c)%4294967296)).take (i+1))+4294967296^(i+1)*((xs.getD i 0+ys.getD i 0+c)/4294967296)=val (xs.take (i+1))+val (ys.take (i+1)):=by
 rw[ahA hi,yW xs,yW ys,bQ];generalize xs.getD i 0=x at *;generalize ys.getD i 0=y at *;generalize 4294967296^i=B at *;have e:B*((x+y+c)%4294967296)+B*4294967296*((x+y+c)/4294967296)=B*(x+y+c):=by
  rw[bH,←cA,gE]
 have e2:B*(x+y+c)=B*x+B*y+B*c:=by rw[cA,cA]
 omega
theorem clE(hz:zs.length=n+1)(hx:xs.length=n)(hy:ys.length≤n)(h:val (zs.take n)+4294967296^n*c=val (xs.take n)+val (ys.take n)):val (zs.set n c)=val xs+val ys:=by
 have e:=ahA (zs:=zs) (i:=n) (v:=c) aA;rw[bA aG]at e;rw[e,h,bA aA,bA aA]
def arE(a b:Nat):Int:=if a<b then-1 else if b<a then 1 else 0
theorem bgC(hl:xs.length=ys.length)(hk:k<xs.length)(hs:xs.drop (k+1)=ys.drop (k+1))(he:xs.getD k 0=ys.getD k 0):xs.drop k=ys.drop k:=by
 rw[cD hk,cD (by omega:k<ys.length),hs];congr 1;rw[aR,aR,bG hk,bG (by omega:k<ys.length)]at he;simpa using he
section
open Go Go.RowKit
set_option maxRecDepth 100000
theorem asI(v:Nat)(hv:v<18446744073709551616):Fn 230 [.int .u64 (v:Int)] (qL v):=by
 intro H;refine .of_body func230 rfl ntmps230 results230 rfl ?_;iterate 2 refine AX ?_
 refine AX ?_;iterate 7 refine AX ?_
 refine AM ?_;refine AX ?_;refine .e rfl (aiX U239 Z166 V166 rfl (tm rfl) (.inl rfl) ⟨rfl,rfl⟩ (tm rfl) (.inl rfl) ⟨rfl,rfl⟩) ?_;refine .cl rfl C278 (evs1 rfl) (aqA [v%2^IntKind.u32.bits,v/2^32%2^IntKind.u32.bits] .full (Limbs.mk (by simp only[IntKind.bits];omega) (Limbs.mk (by simp only[IntKind.bits];omega) Limbs.nil)) aF _) ?_;refine AY ?_;refine⟨?_,rfl⟩;show qL _=_;congr 1;simp only[val,IntKind.bits];omega
theorem btK(x:Nat)(hx:x<4294967296):Fn 340 [.int .u32 (x:Int)] (.int .i64 ((32-zY x:Nat):Int)):=by
 intro H;have hb:=(yQ (n:=x) (k:=32)).2 hx;refine .of_body func340 rfl ntmps340 results340 rfl ?_;refine AY ?_;refine .cl rfl call313 (evs1 rfl) (avU _ aB _) ?_;refine AY ?_;refine⟨?_,rfl⟩;simp only[yD];congr 1;omega
theorem bgT(xs:List Nat)(tl:Tail)(hx:Limbs xs)(hl:xs.length≤1000000):Fn 271 [.slice 1 (U .u32 xs) tl] (.int .i64 (zY (val xs):Int)):=by
 intro H;have hr:=aaU xs;have hrl:=abK hx;refine .of_body func271 rfl ntmps271 results271 rfl ?_;refine AY ?_;refine .cl rfl C311 (evs1 rfl) (aaJ _ _ aB aB _) ?_;refine AY ?_;refine .cx rfl (λhc7=>?_) (λhc7=>?_)
 ·refine AY ?_;refine⟨?_,rfl⟩;have h0:val xs=0:=by
   rcases bJ (val xs)with h|h
   ·exact h
   rw[qR h]at hc7;simp at hc7;omega
  rw[h0];rfl
 have hpos:0<val xs:=by
  rcases bJ (val xs)with h|h
  ·rw[h,aaX]at hc7;exact absurd rfl hc7
  exact h
 have hbl:=alM hpos;have hlb:=(yQ (n:=(zE (val xs)).getD ((zE (val xs)).length-1) 0) (k:=32)).2 (Limbs.getD (zF _) _);refine AY ?_;refine .p rfl (zW ((zE (val xs)).length-1) U239 Z166 (tm rfl) (tm rfl) aA aA) ?_;refine AX ?_;refine .cl rfl call313 (evs1 rfl) (avU _ (Limbs.getD (zF _) _) _) ?_;refine AY ?_;refine⟨?_,rfl⟩;simp only[yD];congr 1;omega
def cnJ(xs ys:List Nat)(H:Heap):Nat→Env→Heap→Prop:=λk env H1=>∃i:Nat,i≤xs.length∧xs.drop (xs.length-i)=ys.drop (xs.length-i)∧env=[(0,.slice 1 (U .u32 xs) .shared),(1,.slice 1 (U .u32 ys) .shared),(22,.int .i64 (xs.length:Int)),(23,.int .i64 (i:Int))]∧H=H1∧k=xs.length-i
theorem caH(xs:List Nat)(tl:Tail)(hx:Limbs xs)(hl:xs.length≤1000000)(ys:List Nat)(tl2:Tail)(hy:Limbs ys)(hm:ys.length≤1000000):Fn 316 [.slice 1 (U .u32 xs) tl,.slice 1 (U .u32 ys) tl2] (.int .i64 (arE (val xs) (val ys))):=by
 intro H;have hr:=aaU xs;have hrl:=abK hx;have hs:=aaU ys;have hsl:=abK hy;refine .of_body func316 rfl ntmps316 results316 rfl ?_;refine AY ?_;refine .cl rfl C311 (evs1 rfl) (aaJ _ _ aB aB _) ?_;refine AX ?_;refine .cl rfl C311 (evs1 rfl) (aaJ _ _ aB aB _) ?_;refine AY ?_;refine .cx rfl (λhc15=>?_) (λhc15=>?_)
 ·refine AY ?_;refine .cx rfl (λhc20=>?_) (λhc20=>?_)
  ·refine AY ?_;refine⟨?_,rfl⟩;rw[arE,aN (ahL aA)];rfl
  refine AY ?_;refine⟨?_,rfl⟩;have:=ahL (a:=val ys) (b:=val xs) aA;rw[arE,aI,aN this];rfl
 have hLx:=zF (val xs);have hLy:=zF (val ys);have hvx:=zG (val xs);have hvy:=zG (val ys);have hlen:(zE (val xs)).length=(zE (val ys)).length:=by omega
 refine AY ?_;refine .loopW (cnJ (zE (val xs)) (zE (val ys)) H) ((zE (val xs)).length) ⟨0,Nat.zero_le _,by rw[gL,fD,hlen,fD],rfl,rfl,rfl⟩ sX (hRa _) ?_;rintro _ _ _ ⟨i,hi,hd,rfl,rfl,rfl⟩;refine AY ?_;refine .cx rfl (λhc24=>?_) (λhc24=>?_)
 ·have hds:(zE (val xs)).drop ((zE (val xs)).length-1-i+1)=(zE (val ys)).drop ((zE (val xs)).length-1-i+1):=by rw[show(zE (val xs)).length-1-i+1=(zE (val xs)).length-i by omega];exact hd
  refine AY ?_;refine .draw [(0,true),(1,true),(2,true),(3,true),(4,true),(5,true),(6,true),(7,true),(8,true),(9,true)] rfl aE ?_;refine AY ?_;refine .p rfl rfl (zW ((zE (val xs)).length-1-i) U239 Z166 (tm rfl) (tm rfl) aA aA) ?_;refine AY ?_;refine .p rfl rfl (zW ((zE (val xs)).length-1-i) U239 Z166 (tm rfl) (tm rfl) aA aA) ?_;refine AY ?_;refine .cx rfl (λhc31=>?_) (λhc31=>?_)
  ·refine AY ?_;refine⟨?_,rfl⟩;have:=aiU hLx hLy hlen (k:=(zE (val xs)).length-1-i) aA hds aA;rw[hvx,hvy]at this;rw[arE,aJ];rfl
  refine AX ?_;refine .draw [(0,true),(1,true),(2,true),(3,true),(4,true),(5,true),(6,true),(7,true),(8,true),(9,true)] rfl aE ?_;refine AY ?_;refine .p rfl rfl (zW ((zE (val xs)).length-1-i) U239 Z166 (tm rfl) (tm rfl) aA aA) ?_;refine AY ?_;refine .p rfl rfl (zW ((zE (val xs)).length-1-i) U239 Z166 (tm rfl) (tm rfl) aA aA) ?_;refine AY ?_;refine .cx rfl (λhc41=>?_) (λhc41=>?_)
  ·refine AY ?_;refine⟨?_,rfl⟩;have:=aiU hLy hLx hlen.symm (k:=(zE (val xs)).length-1-i) aA hds.symm aA;rw[hvx,hvy]at this;rw[arE,aI,aJ];rfl
  refine AY ?_;refine Round.mk ⟨i+1,by omega,by rw[show(zE (val xs)).length-(i+1)=(zE (val xs)).length-1-i by omega];exact bgC hlen aA hds aA,rfl,rfl,rfl⟩ sX (hRa _) aA
 refine AY ?_;refine⟨?_,rfl⟩;have h0:(zE (val xs)).length-i=0:=by omega
 have hxy:zE (val xs)=zE (val ys):=by rw[h0]at hd;simpa using hd
 rw[bfJ hxy,arE,aL (Nat.lt_irrefl _),aL (Nat.lt_irrefl _)];rfl
end
theorem awA:∀k,k=32*256→BIG=2^k:=by intro k hk;unfold BIG;rw[show(4294967296:Nat)=2^32 by decide,←eE,hk]
theorem akM(h:a<2^k):(b*2^k)|||a=b*2^k+a:=by
 rw[bK,Nat.two_pow_add_eq_or_of_lt h]
theorem bjL(h:a<2^k):a|||(b*2^k)=a+b*2^k:=by
 rw[Nat.or_comm,akM h,dS]
theorem bhI(h:i<zs.length):val (zs.set i v)+4294967296^i*zs.getD i 0=val zs+4294967296^i*v:=by
 induction zs generalizing i with
 |nil=>simp at h
 |cons z zs ih=>
  cases i with
  |zero=>simp[val];omega
  |succ i=>
   have:=ih (i:=i) (by simpa using h);rw[List.set_cons_succ,val,val,dG,bQ];generalize 4294967296^i=B at *;generalize zs.getD i 0=x at *;have e1:B*4294967296*x=4294967296*(B*x):=by rw[bK B,bH]
   have e2:B*4294967296*v=4294967296*(B*v):=by rw[bK B,bH]
   rw[e1,e2];omega
theorem getD_set_ne{j:Nat}(h:i≠j):(zs.set i v).getD j 0=zs.getD j 0:=by
 grind
theorem bbI(h:i<zs.length):(zs.set i v).getD i 0=v:=by
 grind
theorem bnW(n j:Nat):(List.replicate n 0).getD j 0=0:=by
 grind
theorem bnI{y o:Nat}(hx:x<4294967296)(hy:y<4294967296)(ho:o<4294967296)(hc:c<4294967296):x*y+o+c<18446744073709551616:=by
 have:x*y≤4294967295*4294967295:=cS aA aA;omega
theorem bnH{o0:List Nat}(hi:i+k<zs.length)(h:val zs+4294967296^(i+k)*c=val o0+4294967296^i*xs.getD i 0*val (ys.take k)):
  val (zs.set (i+k) ((xs.getD i 0*ys.getD k 0+zs.getD (i+k) 0+c)%4294967296))+4294967296^(i+(k+1))*((xs.getD i 0*ys.getD k 0+zs.getD (i+k) 0+c)/4294967296)=val o0+4294967296^i*xs.getD i 0*val (ys.take (k+1)):=by
 have e:=bhI (zs:=zs) (i:=i+k) (v:=(xs.getD i 0*ys.getD k 0+zs.getD (i+k) 0+c)%4294967296) hi;rw[yW ys,←eG,bQ];rw[bI]at *;generalize xs.getD i 0=x at *;generalize ys.getD k 0=y at *;generalize zs.getD (i+k) 0=o at *;generalize 4294967296^i=A at *;generalize 4294967296^k=B at *;generalize val (ys.take k)=w at *;generalize val (zs.set (i+k) ((x*y+o+c)%4294967296))=u at *;have e3:A*B*((x*y+o+c)%4294967296)+A*B*4294967296*((x*y+o+c)/4294967296)=A*B*(x*y+o+c):=by
  rw[bH (A*B),←cA,gE]
 have e4:A*B*(x*y+o+c)=A*x*(B*y)+A*B*o+A*B*c:=by
  rw[cA,cA];congr 2;rw[bH,bH,Nat.mul_left_comm B x y]
 rw[cA];omega
theorem bwX{o0:List Nat}{m:Nat}(hm:ys.length=m)(hi:i+m<zs.length)(hz:zs.getD (i+m) 0=0)(h0:val o0=val (xs.take i)*val ys)(h:val zs+4294967296^(i+m)*c=val o0+4294967296^i*xs.getD i 0*val (ys.take m)):
  val (zs.set (i+m) c)=val (xs.take (i+1))*val ys:=by
 have e:=bhI (zs:=zs) (i:=i+m) (v:=c) hi;rw[hz,dQ,cB]at e;have ey:ys.take m=ys:=bA aA;rw[e,h,h0,ey,yW,bT]
theorem bpR{ws:List Nat}{s:Nat}(hi:i<ws.length)(hs:s≤32)(hx:xs.getD i 0<4294967296)(hc:c<2^s)(h:val (ws.take i)+4294967296^i*c=val (xs.take i)*2^s):
  val ((ws.set i ((c+xs.getD i 0*2^s)%4294967296)).take (i+1))+4294967296^(i+1)*((c+xs.getD i 0*2^s)/4294967296)=val (xs.take (i+1))*2^s∧(c+xs.getD i 0*2^s)/4294967296<2^s∧c+xs.getD i 0*2^s<18446744073709551616:=by
 refine⟨?_,?_,?_⟩
 ·rw[ahA hi,yW xs,bQ,bT,←h];generalize xs.getD i 0=x at *;generalize 4294967296^i=B at *;generalize 2^s=S at *;have e3:B*((c+x*S)%4294967296)+B*4294967296*((c+x*S)/4294967296)=B*(c+x*S):=by
   rw[bH B,←cA,gE]
  rw[cA,←bH]at e3;omega
 ·rw[bR aC];have:xs.getD i 0*2^s≤4294967295*2^s:=bC _ aA;omega
 have h1:xs.getD i 0*2^s≤4294967295*2^s:=bC _ aA;have h2:2^s≤2^32:=aW aC hs;omega
theorem blR{ws:List Nat}(hL:Limbs ws)(hn:ws.length=n)(h:val (ws.take n)+4294967296^n*c=v):val ws=v%4294967296^n:=by
 have:=agG hL;rw[hn]at this;rw[bA aA]at h;rw[←h,dU,bE this]
theorem axJ{z0:List Nat}{d:Nat}(hd:0<d)(hk:k<zs.length)(hl:zs.length=z0.length)(hg:zs.getD k 0=z0.getD k 0)(h:val (zs.drop (k+1))*d+r=val (z0.drop (k+1))):
  val ((zs.set k ((r*4294967296+z0.getD k 0)/d)).drop k)*d+(r*4294967296+z0.getD k 0)%d=val (z0.drop k):=by
 have hk0:k<z0.length:=by omega
 have e1:(zs.set k ((r*4294967296+z0.getD k 0)/d)).drop k=(r*4294967296+z0.getD k 0)/d::zs.drop (k+1):=by
  rw[cD (by simpa using hk),List.getElem_set_self,List.drop_set_of_lt aA]
 have e2:z0.drop k=z0.getD k 0::z0.drop (k+1):=by
  rw[cD hk0,aR,bG hk0];rfl
 rw[e1,e2,val,val,←h];generalize z0.getD k 0=x;generalize val (zs.drop (k+1))=w;have e3:=cH (r*4294967296+x) d;generalize(r*4294967296+x)/d=q at *;generalize(r*4294967296+x)%d=m at *;rw[bT,bK q d,bH,cA 4294967296 (w*d) r];omega
theorem axK{d:Nat}(hr:r<d)(hx:x<4294967296)(hd:d<4294967296):(r*4294967296+x)/d<4294967296∧r*4294967296+x<18446744073709551616:=by
 refine⟨?_,by omega⟩;rw[bR aA];have:(r+1)*4294967296≤d*4294967296:=bC _ hr;omega
section
open Go Go.RowKit
set_option maxRecDepth 100000
def cgB(p:Prop)[Decidable p](v:Nat):AV:=.tuple [qL (if p then v else 0),.int .i64 (if p then 0 else 2)]
theorem bdS{p:Prop}[Decidable p](h:p):cgB p v= .tuple [qL v,.int .i64 0]:=by unfold cgB;rw[aN h,aN h]
theorem bdT{p:Prop}[Decidable p](h:¬p):cgB p v= .tuple [qL 0,.int .i64 2]:=by unfold cgB;rw[aL h,aL h]
theorem bqB{p q:Prop}[Decidable p][Decidable q](h:p↔q):cgB p v=cgB q v:=by
 by_cases hp:p
 ·rw[bdS hp,bdS (h.1 hp)]
 rw[bdT hp,bdT (λhq=>hp (h.2 hq))]
def ckE(v:Nat):AV:=cgB (v<BIG) v
def cnV(a b:Nat):AV:=cgB (a<BIG∧b<BIG∧a*b<BIG) (a*b)
def coE(p:List Nat×Tail):AV:=.slice 1 (U .u32 p.1) p.2
def caM(p:List Nat×Tail):Bool:=decide (256<yX p.1)
theorem caZ{α:Type}{l:List α}{q:α→Bool}(hi:i<l.length)(h:(l.take i).any q=false)(hq:q l[i]=false):(l.take (i+1)).any q=false:=by
 rw[←cV hi,List.any_append,h];simp[hq]
theorem cjZ{α:Type}{l:List α}{q:α→Bool}(hi:i<l.length)(hq:q l[i]=true):l.any q=true:=by
 rw[List.any_eq_true];exact⟨l[i],eX hi,hq⟩
def cgF(l:List (List Nat×Tail))(tl:Tail)(H:Heap):Nat→Env→Heap→Prop:=λk env H1=>∃i:Nat,i≤l.length∧(l.take i).any caM=false∧env=[(0,.slice 1 (l.map coE) tl),(5,.slice 1 (l.map coE) tl),(6,.int .i64 (l.length:Int)),(7,.int .i64 (i:Int))]∧H=H1∧k=l.length-i
theorem ayE(l:List (List Nat×Tail))(tl:Tail)(hx:∀p,p∈l→Limbs p.1)(hl:∀p,p∈l→p.1.length≤1000000)(hL:l.length≤1000):Fn 310 [.slice 1 (l.map coE) tl] (.bool (l.any caM)):=by
 intro H;refine .of_body func310 rfl ntmps310 results310 rfl ?_;refine AY ?_;refine .loopW (cgF l tl H) (l.length) ⟨0,Nat.zero_le _,rfl,rfl,rfl,rfl⟩ sX (hRa _) ?_;rintro _ _ _ ⟨i,hi,hany,rfl,rfl,hk⟩;refine AY ?_;refine .cx rfl (λhc8=>?_) (λhc8=>?_)
 ·have hi2:i<l.length:=by omega
  refine AY ?_;refine .cl rfl C314 (evs1 rfl) (adO l[i].1 l[i].2 (hx _ (eX hi2)) (hl _ (eX hi2)) _) ?_;refine AY ?_;refine .cx rfl (λhc13=>?_) (λhc13=>?_)
  ·have hb:caM l[i]=true:=by unfold caM;simp only[aO];omega
   refine AY ?_;refine⟨?_,rfl⟩;rw[cjZ hi2 hb];rfl
  have hb:caM l[i]=false:=by unfold caM;simp only[aM];omega
  refine AY ?_;refine Round.mk ⟨i+1,by omega,caZ hi2 hany hb,rfl,rfl,rfl⟩ sX (hRa _) aA
 refine AY ?_;refine⟨?_,rfl⟩;rw[bA aA]at hany;rw[hany];rfl
theorem ayP(xs:List Nat)(tl:Tail)(hx:Limbs xs)(hl:xs.length≤1000000):Fn 312 [.slice 1 (U .u32 xs) tl] (ckE (val xs)):=by
 intro H;have hb:=@bfK (val xs);have hr:=aaU xs;have hrl:=abK hx;refine .of_body func312 rfl ntmps312 results312 rfl ?_;iterate 2 refine AX ?_
 refine AM ?_;refine AY ?_;refine .cl rfl C311 (evs1 rfl) (aaJ _ _ aB aB _) ?_;refine AY ?_;refine .cx rfl (λhc8=>?_) (λhc8=>?_)
 ·iterate 2 refine AX ?_
  refine AM ?_;refine AY ?_;refine⟨?_,rfl⟩;rw[ckE,bdT aA];rfl
 refine AY ?_;refine⟨?_,rfl⟩;rw[ckE,bdS aA];rfl
theorem chJ{tl tl2:Tail}(hx:Limbs xs)(hy:Limbs ys):[(xs,tl),(ys,tl2)].any caM=decide (BIG≤val xs∨BIG≤val ys):=by
 have h1:=atJ hx;have h2:=atJ hy;have e:∀a b:Prop,∀[Decidable a][Decidable b],(decide a||decide b)=decide (a∨b):=by intro a b _ _;by_cases a<;>by_cases b<;>simp_all
 simp only[List.any_cons,List.any_nil,Bool.or_false,caM,h1,h2,e]
theorem ciS{tl:Tail}(hx:Limbs xs):[(xs,tl)].any caM=decide (BIG≤val xs):=by
 have h1:=atJ hx;simp only[List.any_cons,List.any_nil,Bool.or_false,caM,h1]
theorem auG(xs:List Nat)(tl tl3:Tail)(hx:Limbs xs)(hl:xs.length≤1000000):Fn 310 [.slice 1 [.slice 1 (U .u32 xs) tl] tl3] (.bool (decide (BIG≤val xs))):=by
 intro H;rw[←ciS (tl:=tl) hx];exact ayE [(xs,tl)] tl3 (by simpa using hx) (by simpa using hl) aF H
theorem amM(xs:List Nat)(tl:Tail)(hx:Limbs xs)(hl:xs.length≤1000000)(ys:List Nat)(tl2 tl3:Tail)(hy:Limbs ys)(hm:ys.length≤1000000):Fn 310 [.slice 1 [.slice 1 (U .u32 xs) tl,.slice 1 (U .u32 ys) tl2] tl3] (.bool (decide (BIG≤val xs∨BIG≤val ys))):=by
 intro H;rw[←chJ (tl:=tl) (tl2:=tl2) hx hy];refine ayE [(xs,tl),(ys,tl2)] tl3 ?_ ?_ aF H
 ·intro p hp;rcases cP.1 hp with rfl|hp
  ·exact hx
  rcases cP.1 hp with rfl|hp
  ·exact hy
  simp at hp
 intro p hp;rcases cP.1 hp with rfl|hp
 ·exact hl
 rcases cP.1 hp with rfl|hp
 ·exact hm
 simp at hp
end
section
open Go Go.RowKit
set_option maxRecDepth 100000
def hiN(a b:Nat):Nat:=if(zE a).length<(zE b).length then b else a
def loN(a b:Nat):Nat:=if(zE a).length<(zE b).length then a else b
theorem coI(a b:Nat):hiN a b+loN a b=a+b∧(zE (loN a b)).length≤(zE (hiN a b)).length:=by
 unfold hiN loN;split<;>omega
theorem yI(h:n<BIG):(zE n).length≤256:=by
 have:=@bfK n;omega
theorem coH(ha:a<BIG)(hb:b<BIG):hiN a b<BIG:=by unfold hiN;split<;>assumption
def cnN(P Q:Nat)(b:Nat)(H:Heap):Nat→Env→Heap→Prop:=λk env H1=>∃(i c:Nat)(zs:List Nat),i≤(zE P).length∧zs.length=(zE P).length+1∧Limbs zs∧c≤1∧val (zs.take i)+4294967296^i*c=val ((zE P).take i)+val ((zE Q).take i)∧env=[(0,qL P),(1,qL Q),(6,.mslice (some ⟨b,0,none⟩) ((zE P).length+1) ((zE P).length+1)),(7,.int .u32 (c:Int)),(30,.int .i64 ((zE P).length:Int)),(31,.int .i64 (i:Int))]∧H1=H.set b (.box 166 (U .u32 zs))∧k=(zE P).length-i
theorem caJ(xs:List Nat)(tl:Tail)(hx:Limbs xs)(hl:xs.length≤1000000)(ys:List Nat)(tl2:Tail)(hy:Limbs ys)(hm:ys.length≤1000000):Fn 309 [.slice 1 (U .u32 xs) tl,.slice 1 (U .u32 ys) tl2] (ckE (val xs+val ys)):=by
 intro H;refine .of_body func309 rfl ntmps309 results309 rfl ?_;iterate 2 refine AX ?_
 refine AM ?_;refine AY ?_;refine .e rfl (aiX U327 Z239 V239 rfl (tm rfl) (.inl rfl) ⟨rfl,rfl⟩ (tm rfl) (.inl rfl) ⟨rfl,rfl⟩) (.cl rfl C310 (evs1 rfl) (amM _ _ aB aB _ _ _ aB aB _) ?_);refine AY ?_;refine .cx rfl (λhc13=>?_) (λhc13=>?_)
 ·iterate 2 refine AX ?_
  refine AM ?_;refine AY ?_;refine⟨?_,rfl⟩;rw[ckE,bdT aA];rfl
 refine AY ?_;refine .cl rfl C311 (evs1 rfl) (aaJ _ _ aB aB _) ?_;refine AX ?_;refine .cl rfl C311 (evs1 rfl) (aaJ _ _ aB aB _) ?_;iterate 4 refine AX ?_
 refine .seqToL [(0,qL (hiN (val xs) (val ys))),(1,qL (loN (val xs) (val ys)))] [4,5] ?_ ?_
 ·refine AY ?_;refine .cx rfl (λhc22=>?_) (λhc22=>?_)
  ·refine AY ?_;exact⟨rfl,(zM rfl (by simp only[hiN];split<;>first|rfl|omega) (zM rfl (by simp only[loN];split<;>first|rfl|omega) sX)),rfl⟩
  refine AX ?_;exact⟨rfl,(zM rfl (by simp only[hiN];split<;>first|rfl|omega) (zM rfl (by simp only[loN];split<;>first|rfl|omega) sX)),rfl⟩
 refine .sub [(0,_),(1,_),(4,_),(5,_)] sX ?_;have hs:=coI (val xs) (val ys);have h256:=yI (coH (a:=val xs) (b:=val ys) aA aA)
 revert hs h256
 generalize hiN (val xs) (val ys)=P;generalize loN (val xs) (val ys)=Q;intro hs h256;refine AY ?_;refine .s rfl (yP ((zE P).length+1) U239 typeInfo166 Z166 V166 (tm rfl) (tm rfl) aA aA aC aA) ?_;rintro _ _ ⟨b28,rfl,hb28,hH⟩;obtain rfl:=hH.symm;iterate 5 refine AX ?_
 refine AM ?_;refine AY ?_;refine .loopW (cnN P Q b28 H) ((zE P).length) ⟨0,0,List.replicate ((zE P).length+1) 0,Nat.zero_le _,by simp,Limbs.rep aA,by omega,rfl,rfl,rfl,rfl⟩ sX (hRa _) ?_;rintro _ _ _ ⟨i,c,zs,hi,hz,hzl,hc,hv,rfl,rfl,hk⟩;refine AY ?_;refine .cx rfl (λhc32=>?_) (λhc32=>?_)
 ·iterate 12 refine AX ?_
  refine AM ?_;iterate 2 refine AX ?_
  refine .seqToL [(9,.int .u32 (((zE Q).getD i 0:Nat):Int))] [0,1,6,7,30,31,8] ?_ ?_
  ·refine AY ?_;refine .cx rfl (λhc37=>?_) (λhc37=>?_)
   ·refine AY ?_;refine .p rfl (zW (i) U239 Z166 (tm rfl) (tm rfl) aA aA) ?_;refine AY ?_;exact⟨rfl,(zM rfl aD sX),rfl⟩
   refine AX ?_;exact⟨rfl,(zM rfl (by(rw[ahM aA])) sX),rfl⟩
  refine .sub [(9,_),(0,_),(1,_),(6,_),(7,_),(30,_),(31,_),(8,_)] sX ?_;refine AY ?_;refine .p rfl (zW (i) U239 Z166 (tm rfl) (tm rfl) aA aA) ?_;refine AY ?_;refine .cl rfl call339 (evs3 rfl rfl rfl) (awC _ _ _ (Limbs.getD (zF _) _) (Limbs.getD (zF _) _) aA _) ?_;refine AY ?_;refine .p rfl (yH (i) U239 Z166 (tm rfl) (tm rfl) aA aA) (.e0 (yU Z166 (tm rfl) (tm rfl) (oS _ _ _) aA) ?_);try first|rw[sS]|rw[sU aB]
  refine AY ?_;refine Round.mk ⟨i+1,_,_,by omega,by simpa using hz,Limbs.set hzl aA,by have h1:=Limbs.getD (zF P) i;have h2:=Limbs.getD (zF Q) i;omega,boV aA hv,rfl,rfl,rfl⟩ sX (hRa _) aA
 refine AY ?_;refine .p rfl (yH ((zE P).length) U239 Z166 (tm rfl) (tm rfl) aA aA) (.e0 (yU Z166 (tm rfl) (tm rfl) (oS _ _ _) aA) ?_);try first|rw[sS]|rw[sU aB]
 iterate 3 refine AX ?_
 have hi2:i=(zE P).length:=by omega
 subst hi2;have hz2:zs.length≤(zE P).length+1:=by omega
 have hz3:(zE P).length<zs.length:=by omega
 have hv2:=clE hz rfl hs.2 hv;rw[zG,zG]at hv2;refine .frzU (t:=6) rfl hb28 (by simp<;>omega) (aV _) (by simp only[zJ];omega) ?_;rw[bA (by simp<;>omega)];have hz4:=Limbs.set hzl (i:=(zE P).length) (v:=c) aA;have hz5:(zs.set (zE P).length c).length≤1000000:=by simp<;>omega
 refine AY ?_;refine .cl rfl call312 (evs1 rfl) (ayP _ _ aB aB _) ?_;refine AY ?_;refine⟨?_,rfl⟩;rw[←hs.1,←hv2];rfl
theorem arR(h:∀j,n≤j→zs.getD j 0=0)(hi:i<n):∀j,n≤j→(zs.set i v).getD j 0=0:=λj hj=>by
 rw[getD_set_ne aA,h j hj]
def cmP(P Q:Nat)(b:Nat)(H:Heap):Nat→Env→Heap→Prop:=λk env H1=>∃(i:Nat)(zs:List Nat),i≤(zE P).length∧zs.length=(zE P).length+(zE Q).length∧Limbs zs∧(∀j,i+(zE Q).length≤j→zs.getD j 0=0)∧val zs=val ((zE P).take i)*val (zE Q)∧env=[(0,qL P),(1,qL Q),(6,.mslice (some ⟨b,0,none⟩) ((zE P).length+(zE Q).length) ((zE P).length+(zE Q).length)),(26,.int .i64 ((zE P).length:Int)),(27,.int .i64 (i:Int))]∧H1=H.set b (.box 166 (U .u32 zs))∧k=(zE P).length-i
def cgK(P Q:Nat)(b i:Nat)(o0:List Nat)(H:Heap):Nat→Env→Heap→Prop:=λk env H1=>∃(j c:Nat)(zs:List Nat),j≤(zE Q).length∧zs.length=(zE P).length+(zE Q).length∧Limbs zs∧c<4294967296∧(∀j,i+(zE Q).length≤j→zs.getD j 0=0)∧val zs+4294967296^(i+j)*c=val o0+4294967296^i*(zE P).getD i 0*val ((zE Q).take j)∧env=[(0,qL P),(1,qL Q),(6,.mslice (some ⟨b,0,none⟩) ((zE P).length+(zE Q).length) ((zE P).length+(zE Q).length)),(26,.int .i64 ((zE P).length:Int)),(27,.int .i64 (i:Int)),(7,.int .i64 (i:Int)),(8,.int .u64 (c:Int)),(31,.int .i64 ((zE Q).length:Int)),(32,.int .i64 (j:Int))]∧H1=H.set b (.box 166 (U .u32 zs))∧k=(zE Q).length-j
theorem caF(xs:List Nat)(tl:Tail)(hx:Limbs xs)(hl:xs.length≤1000000)(ys:List Nat)(tl2:Tail)(hy:Limbs ys)(hm:ys.length≤1000000):Fn 269 [.slice 1 (U .u32 xs) tl,.slice 1 (U .u32 ys) tl2] (cnV (val xs) (val ys)):=by
 intro H;refine .of_body func269 rfl ntmps269 results269 rfl ?_;iterate 2 refine AX ?_
 refine AM ?_;refine AY ?_;refine .e rfl (aiX U327 Z239 V239 rfl (tm rfl) (.inl rfl) ⟨rfl,rfl⟩ (tm rfl) (.inl rfl) ⟨rfl,rfl⟩) (.cl rfl C310 (evs1 rfl) (amM _ _ aB aB _ _ _ aB aB _) ?_);refine AY ?_;refine .cx rfl (λhc14=>?_) (λhc14=>?_)
 ·iterate 2 refine AX ?_
  refine AM ?_;refine AY ?_;refine⟨?_,rfl⟩;rw[cnV,bdT aA];rfl
 refine AY ?_;refine .cl rfl C311 (evs1 rfl) (aaJ _ _ aB aB _) ?_;refine AX ?_;refine .cl rfl C311 (evs1 rfl) (aaJ _ _ aB aB _) ?_;iterate 5 refine AX ?_
 have h256:=yI (n:=val xs) aA;have h257:=yI (n:=val ys) aA;have hmul:cnV (val xs) (val ys)=ckE (val xs*val ys):=by
  exact bqB ⟨λh=>h.2.2,λh=>⟨by omega,by omega,h⟩⟩
 rw[hmul];generalize val xs=P at *;generalize val ys=Q at *;refine AY ?_;refine .s rfl (yP ((zE P).length+(zE Q).length) U239 typeInfo166 Z166 V166 (tm rfl) (tm rfl) aA aA aC aA) ?_;rintro _ _ ⟨b24,rfl,hb24,hH⟩;obtain rfl:=hH.symm;refine AY ?_;refine .loopW (cmP P Q b24 H) ((zE P).length) ⟨0,List.replicate _ 0,Nat.zero_le _,by simp,Limbs.rep aA,λj _=>bnW _ _,by rw[aoV,fB,val,dV],rfl,rfl,rfl⟩ sX (hRa _) ?_;rintro _ _ _ ⟨i,zs0,hi,hz0,hzl0,h0,hv0,rfl,rfl,hk⟩;refine AY ?_;refine .cx rfl (λhc28=>?_) (λhc28=>?_)
 ·iterate 12 refine AX ?_
  refine AM ?_;refine AY ?_;refine .loopW (cgK P Q b24 i zs0 H) ((zE Q).length) ⟨0,0,zs0,Nat.zero_le _,hz0,hzl0,by omega,h0,by rw[fB,val,dQ,dQ],rfl,rfl,rfl⟩ sX (hRa _) ?_;rintro _ _ _ ⟨j,c,zs,hj,hz,hzl,hc,hzr,hv,rfl,rfl,hk2⟩;refine AY ?_;refine .cx rfl (λhc33=>?_) (λhc33=>?_)
  ·have hPi:=Limbs.getD (zF P) i;have hQj:=Limbs.getD (zF Q) j;have hZ:=Limbs.getD hzl (i+j);have hmf:=bnI hPi hQj hZ hc;refine AY ?_;refine .draw [(0,true),(1,true),(2,true),(3,true),(4,true),(5,true),(6,true),(7,true),(8,true),(9,true),(10,true),(11,true),(12,true),(13,true),(14,true),(15,true),(19,true),(16,false),(17,true),(18,true),(20,true),(21,true)] rfl aE ?_;refine AY ?_;refine .p rfl rfl (zW (i) U239 Z166 (tm rfl) (tm rfl) aA aA) ?_;refine AY ?_;refine .p rfl rfl (zW (j) U239 Z166 (tm rfl) (tm rfl) aA aA) ?_;refine AY ?_;refine .p rfl rfl (yH (i+j) U239 Z166 (tm rfl) (tm rfl) aA aA) ?_;refine AX ?_;refine .s rfl rfl (yZ G166 (tm rfl) (oS _ _ _) aA) ?_;rintro _ _ ⟨rfl,hH⟩;obtain rfl:=hH.symm;iterate 14 refine AX ?_
   refine AM ?_;refine .p rfl (yH (i+j) U239 Z166 (tm rfl) (tm rfl) aA aA) (.e0 (yU Z166 (tm rfl) (tm rfl) (oS _ _ _) aA) ?_);try first|rw[sS]|rw[sU aB]
   refine AY ?_;refine Round.mk ⟨j+1,_,_,by omega,by simpa using hz,Limbs.set hzl aA,by omega,λq hq=>arR hzr aA q hq,bnH aA hv,rfl,rfl,rfl⟩ sX (hRa _) aA
  have hj2:j=(zE Q).length:=by omega
  subst hj2;have hcm:c%2^IntKind.u32.bits=c:=bE hc;refine AY ?_;refine .p rfl (yH (i+(zE Q).length) U239 Z166 (tm rfl) (tm rfl) aA aA) (.e0 (yU Z166 (tm rfl) (tm rfl) (oS _ _ _) aA) ?_);try first|rw[sS]|rw[sU aB]
  refine AY ?_;rw[hcm];refine Round.mk ⟨i+1,_,by omega,by simpa using hz,Limbs.set hzl hc,λj hj=>arR (n:=i+1+(zE Q).length) (λj hj=>hzr j aA) aA j hj,bwX rfl aA (hzr _ (aV _)) hv0 hv,rfl,rfl,rfl⟩ sX (hRa _) aA
 iterate 6 refine AX ?_
 have hi2:i=(zE P).length:=by omega
 subst hi2;rw[dK,zG,zG]at hv0;refine .frzU (t:=6) rfl hb24 aA (aV _) (by simp only[zJ];omega) ?_;rw[bA aA];have hz5:zs0.length≤1000000:=by omega
 refine AY ?_;refine .cl rfl call312 (evs1 rfl) (ayP _ _ aB aB _) ?_;refine AY ?_;refine⟨?_,rfl⟩;rw[←hv0];rfl
end
end Go.Proofs.YtmmgbnolccpjoaaGreatDoor
