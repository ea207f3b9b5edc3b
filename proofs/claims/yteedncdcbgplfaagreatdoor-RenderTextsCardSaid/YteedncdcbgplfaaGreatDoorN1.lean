import Derived.Test.YteedncdcbgplfaaGreatDoorSsk
import Derived.Test.YteedncdcbgplfaaGreatDoorS6
namespace Go.Proofs.YteedncdcbgplfaaGreatDoor
open Go.Proofs.Tryz
variable{a b c i k n r v x:Nat}{xs ys zs:List Nat}
def Limbs(xs:List Nat):Prop:=∀x,x∈xs→x<4294967296
def val:List Nat→Nat
 | []=>0
 |x::xs=>x+4294967296*val xs
def yS:List Nat→Nat
 | []=>0
 |x::xs=>if yS xs=0∧x=0 then 0 else yS xs+1
def anR:Nat→Nat→List Nat
 |0,_=>[]
 |_+1,0=>[]
 |f+1,n+1=>(n+1)%4294967296::anR f ((n+1)/4294967296)
def zK(n:Nat):List Nat:=anR n n
theorem alO:∀(f g n:Nat),n≤f→n≤g→anR f n=anR g n
 |0,0,_,_,_=>rfl
 |0,g+1,n,h,_=>by
  have:n=0:=by omega
  subst this;rfl
 |f+1,0,n,_,h=>by
  have:n=0:=by omega
  subst this;rfl
 |f+1,g+1,0,_,_=>rfl
 |f+1,g+1,n+1,h1,h2=>by
  unfold anR;rw[alO f g ((n+1)/4294967296) aA aA]
theorem abR:zK 0=[]:=rfl
theorem aaI(h:0<n):zK n=n%4294967296::zK (n/4294967296):=by
 unfold zK;obtain⟨m,rfl⟩:∃m,n=m+1:=⟨n-1,by omega⟩;show(m+1)%4294967296::anR m ((m+1)/4294967296)=_;rw[alO m ((m+1)/4294967296) ((m+1)/4294967296) aA (bA _)]
theorem yG(n:Nat):val (zK n)=n:=by
 induction n using Nat.strongRecOn with
 |ind n ih=>
  rcases bJ n with h|h
  ·subst h;rfl
  rw[aaI h,val,ih _ aA];omega
theorem zS(n:Nat):Limbs (zK n):=by
 induction n using Nat.strongRecOn with
 |ind n ih=>
  rcases bJ n with h|h
  ·subst h;intro x hx;simp[abR]at hx
  rw[aaI h];intro x hx;rcases cM.1 hx with rfl|hx
  ·omega
  exact ih _ aA x hx
theorem Limbs.cons{x:Nat}{xs:List Nat}(h:Limbs (x::xs)):x<4294967296∧Limbs xs:=⟨h x aF,λy hy=>h y (by simp[hy])⟩
theorem Limbs.mk(hx:x<4294967296)(h:Limbs xs):Limbs (x::xs):=λy hy=>by
 rcases cM.1 hy with rfl|hy
 ·exact hx
 exact h y hy
theorem Limbs.nil:Limbs []:=λ_ h=>by simp at h
theorem Limbs.append(h:Limbs xs)(k:Limbs ys):Limbs (xs++ys):=λy hy=>by
 rcases dK.1 hy with h1|h1
 ·exact h y h1
 exact k y h1
theorem Limbs.take(h:Limbs xs)(n:Nat):Limbs (xs.take n):=λy hy=>h y (List.mem_of_mem_take hy)
theorem Limbs.drop(h:Limbs xs)(n:Nat):Limbs (xs.drop n):=λy hy=>h y (List.mem_of_mem_drop hy)
theorem Limbs.rep(h:x<4294967296):Limbs (List.replicate n x):=λy hy=>by rw[eD hy];exact h
theorem qI:∀{xs:List Nat},yS xs=0→val xs=0
 | [],_=>rfl
 |x::xs,h=>by
  unfold yS at h;split at h
  ·rename_i hc;rw[val,qI hc.1,hc.2]
  omega
theorem qJ:∀{xs:List Nat},val xs=0→yS xs=0
 | [],_=>rfl
 |x::xs,h=>by
  rw[val]at h;unfold yS;rw[aM ⟨qJ aA,by omega⟩]
theorem adN:∀{xs:List Nat},Limbs xs→xs.take (yS xs)=zK (val xs)
 | [],_=>rfl
 |x::xs,h=>by
  obtain⟨hx,hxs⟩:=h.cons;unfold yS;split
  ·rename_i hc
   rw[val,qI hc.1,hc.2];rfl
  rename_i hc
  rw[dJ,adN hxs];have hpos:0<val (x::xs):=by
   rw[val];rcases bJ x with h0|h0
   ·rcases bJ (val xs)with h1|h1
    ·exact absurd ⟨qJ h1,h0⟩ hc
    omega
   omega
  rw[aaI hpos];simp only[val];rw[show(x+4294967296*val xs)%4294967296=x by omega,show(x+4294967296*val xs)/4294967296=val xs by omega]
theorem aaO:∀(xs:List Nat),yS xs≤xs.length
 | []=>bA _
 |x::xs=>by
  unfold yS;have:=aaO xs;split<;>simp<;>omega
theorem abG(h:Limbs xs):yS xs=(zK (val xs)).length:=by
 rw[←adN h,aU];have:=aaO xs;omega
theorem alN(n:Nat):yS (zK n)=(zK n).length:=by rw[abG (zS n),yG]
theorem afS(hk:k<xs.length):yS (xs.take (k+1))=if xs.getD k 0=0 then yS (xs.take k)else k+1:=by
 induction xs generalizing k with
 |nil=>simp at hk
 |cons x xs ih=>
  cases k with
  |zero=>
   simp only[dJ,eO,eH];unfold yS;simp[yS]
  |succ k=>
   rw[dJ,dJ];have hk':k<xs.length:=by simpa using hk
   simp only[yS,ih hk',cF];by_cases h:xs.getD k 0=0
   ·rw[aM h,aM h]
   rw[aL h,aL h,aI]
theorem aaZ:∀(xs ys:List Nat),val (xs++ys)=val xs+4294967296^xs.length*val ys
 | [],ys=>by simp[val]
 |x::xs,ys=>by
  rw[eQ,val,aaZ xs ys,val,aW,cB,bZ,←bY,bL (4294967296^xs.length) 4294967296];omega
theorem amV:∀{xs:List Nat},Limbs xs→val xs<4294967296^xs.length
 | [],_=>by simp[val]
 |x::xs,h=>by
  obtain⟨hx,hxs⟩:=h.cons;have:=amV hxs;rw[val,aW,cB];omega
theorem aoI(n:Nat):val (List.replicate n 0)=0:=by
 induction n with
 |zero=>rfl
 |succ n ih=>rw[eI,val,ih]
theorem qS{n k:Nat}:(zK n).length≤k↔n<4294967296^k:=by
 induction k generalizing n with
 |zero=>
  rcases bJ n with h|h
  ·subst h;simp[abR]
  rw[aaI h];simp;omega
 |succ k ih=>
  rcases bJ n with h|h
  ·subst h;simp[abR];exact cK aC
  rw[aaI h,aW,Nat.add_le_add_iff_right,ih,cB,dN aC]
theorem bdQ(h:zK a=zK b):a=b:=by rw[←yG a,h,yG]
theorem aoH(hk:k<xs.length):val (xs.take (k+1))=val (xs.take k)+4294967296^k*xs.getD k 0:=by
 rw[←bN hk,aaZ];simp only[val,aU,Nat.mul_zero,cN];rw[cR aA];congr 2;rw[aS,aR hk];rfl
theorem Limbs.getD(h:Limbs xs)(k:Nat):xs.getD k 0<4294967296:=by
 rw[aS];cases hk:xs[k]? with
 |none=>simp
 |some x=>exact h x (eB hk)
theorem copied(h:r≤xs.length):(zs.take 0++xs.take r++zs.drop (0+min xs.length r)).take r=xs.take r:=by
 rw[eO,dL,cZ (by rw[aU];omega),List.take_take,Nat.min_self]
def BIG:Nat:=4294967296^256
section
open Go Go.RowKit
set_option maxRecDepth 100000
def aaS(n:Nat):AV:=.slice 1 (U .u32 (zK n)) .shared
def bbW(xs:List Nat)(tl:Tail)(H:Heap):Nat→Env→Heap→Prop:=λk env H1=>∃n:Nat,n≤xs.length∧yS (xs.take n)=yS xs∧env=[(0,.slice 1 (U .u32 xs) tl),(3,.int .i64 (n:Int))]∧H=H1∧k=n
theorem abL(xs:List Nat)(tl:Tail)(hx:Limbs xs)(hl:xs.length≤1000000)(H:Heap):ACall prog 240 [.slice 1 (U .u32 xs) tl] H (λy H'=>y= .int .i64 (yS xs:Int)∧H'=H):=by
 refine ACall.of_body func240 rfl ntmps240 results240 rfl ?_;refine .sr (.p rfl (zC zG) (.nr (.mv rfl rfl (.p rfl (yM U159 (tm rfl)) (.as rfl rfl (.ng (.seq (.block ?_))))))));refine AWP.loopW (bbW xs tl H) (xs.length) ⟨xs.length,bA _,by rw[bS],rfl,rfl,rfl⟩ (zJ rfl (zJ rfl yF)) (hRa _) ?_;rintro _ _ _ ⟨n,hn,hr,rfl,rfl,hk⟩;refine .seq ?_;refine AWP.seqTo 15 (.bool (decide (0<(n:Int))&&decide (((xs.getD (n-1) 0:Nat):Int)=0))) [0,3] ?_ ?_
 ·refine .region (.mv rfl rfl (.p rfl (abW (tm rfl) zG) (.mv rfl rfl ?_)));refine zB (t:=8) rfl (λhg8=>?_) (λhg8=>?_)
  ·have hh8:=hg8;try simp only[aV]at hh8
   refine .gp rfl rfl rfl aB (zD (tm rfl)) (.gp rfl rfl rfl aB (zD (tm rfl)) (.gp rfl rfl rfl aB (aaD (tm rfl) zG aA) (.gp rfl rfl rfl aB (yW (n-1) U159 Z210 (tm rfl) (tm rfl) aA aA) (.gp rfl rfl rfl aB (zV G210 (tm rfl)) (.gp rfl rfl rfl aB (aaR (tm rfl) (yQ 0)) (.p rfl (yK (tm rfl) aB (tm rfl)) (.nil ?_)))))));exact⟨rfl,zP rfl (by simp_all) (zJ rfl (zJ rfl yF)),rfl⟩
  have hh8:=hg8;try simp only[aT,cI]at hh8
  refine .gn rfl rfl rfl aB (.gn rfl rfl rfl aB (.gn rfl rfl rfl aB (.gn rfl rfl rfl aB (.gn rfl rfl rfl aB (.gn rfl rfl rfl aB (.p rfl (yE (tm rfl) aB zY) (.nil ?_)))))));exact⟨rfl,zP rfl (by simp_all) (zJ rfl (zJ rfl yF)),rfl⟩
 refine AWP.sub [(15,_),(0,_),(3,_)] (zJ rfl (zJ rfl (zJ rfl yF))) ?_;refine AWP.cond (tm rfl) (λhc15=>?_) (λhc15=>?_)
 ·try simp only[aK]at hc15
  simp only[bB,aV]at hc15;refine .skip ?_;refine Next.go ?_;refine .block (.region (.mv rfl rfl (.p rfl (aaD (tm rfl) zG aA) (.as rfl rfl (.nil ?_)))));refine Block.go ?_;refine Next.go ?_;have hs:=afS (xs:=xs) (k:=n-1) aA;rw[show n-1+1=n by omega,aJ]at hs;refine Round.mk (J:=bbW xs tl H) ⟨n-1,by omega,by rw[←hs,hr],rfl,rfl,rfl⟩ (zJ rfl (yD rfl (by rw[show((n:Int)-1)=((n-1:Nat):Int) by omega]) yF)) (hRa _) aA
 try simp only[aK]at hc15
 simp only[dB,aT]at hc15;refine .exit ?_;refine Next.ex ?_;refine Next.ex ?_;refine Block.hit ?_;refine Next.go ?_;refine .sr (.mv rfl rfl (.as rfl rfl (.ng (.ret ?_))));refine Ret.go (.cons (.tmp _ _ rfl) .nil) _ (hRa _) ?_;refine⟨?_,rfl⟩;have hq:n=yS xs:=by
  rcases bJ n with h0|h0
  ·subst h0;rw[←hr];rfl
  have hs:=afS (xs:=xs) (k:=n-1) aA;rw[show n-1+1=n by omega,aI,hr]at hs;exact hs.symm
 rw[hq];rfl
theorem qT(xs:List Nat)(tl:Tail)(hx:Limbs xs)(hl:xs.length≤1000000)(H:Heap):ACall prog 194 [.slice 1 (U .u32 xs) tl] H (λy H'=>y=aaS (val xs)∧H'=H):=by
 have hr:=aaO xs;refine ACall.of_body func194 rfl ntmps194 results194 rfl ?_;refine .sr ?_;refine .p rfl (zC (aaV (sz:=1) (tl:=.full))) ?_;refine .nr (.mv rfl rfl (.mv rfl rfl (.cl rfl C240 (evs1 rfl) (abL _ _ aB aB _) (.p rfl (ahF (_) U159 Z210 (tm rfl) (tm rfl) rfl aA) (.as rfl rfl (.ng (.ret ?_)))))));refine Ret.go (.cons (.tmp _ _ rfl) .nil) _ (hRa _) ?_;refine⟨?_,rfl⟩;simp only[yN,aaS];rw[adN hx]
theorem avI(x y c:Nat)(hx:x<4294967296)(hy:y<4294967296)(hc:c≤1)(H:Heap):ACall prog 196 [.int .u32 (x:Int),.int .u32 (y:Int),.int .u32 (c:Int)] H (λz H'=>z= .tuple [.int .u32 ((x+y+c)%4294967296:Nat),.int .u32 ((x+y+c)/4294967296:Nat)]∧H'=H):=by
 refine ACall.of_body func196 rfl ntmps196 results196 rfl ?_;refine .sr (.p rfl (zC (yQ 0)) (.p rfl (zC (yQ 0)) (.nr (.mv rfl rfl (.p rfl (qQ U210 U25 (tm rfl) (wrapN64 aA)) (.mv rfl rfl (.p rfl (qQ U210 U25 (tm rfl) (wrapN64 aA)) (.p rfl (abP (tm rfl) (tm rfl) aA) ?_))))))));refine .mv rfl rfl (.p rfl (qQ U210 U25 (tm rfl) (wrapN64 aA)) (.p rfl (abP (tm rfl) (tm rfl) aA) (.as rfl rfl (.nr (.mv rfl rfl (.p rfl (abB U25 U210 rfl (tm rfl)) (.as rfl rfl (.nr ?_))))))));refine .mv rfl rfl (.p rfl (adS (tm rfl) (yQ 32) aA) (.p rfl (abB U25 U210 rfl (tm rfl)) (.as rfl rfl (.ng (.ret ?_)))));refine Ret.go (.cons (.tmp _ _ rfl) (.cons (.tmp _ _ rfl) .nil)) _ (hRa _) ?_;refine⟨?_,rfl⟩;simp only[yN,IntKind.bits];rw[show(x+y+c)/2^32%2^32=(x+y+c)/4294967296 by omega]
end
def amC(n:Nat):Nat:=if n=0 then 0 else n.log2+1
theorem agR{n k:Nat}:amC n≤k↔n<2^k:=by
 unfold amC;split
 ·rename_i h;subst h;simp;exact cK aC
 rename_i h
 rw[Nat.add_one_le_iff,Nat.log2_lt h]
theorem blU:k<amC n↔2^k≤n:=by
 have:=@agR n k;omega
theorem aiW{m:Nat}(h:2^k≤n)(hm:m=n/2^k):amC n=k+amC m:=by
 subst hm;have hp:0<2^k:=cK aC;have h1:0<n/2^k:=Nat.div_pos h hp;have key:∀j,amC n≤k+j↔amC (n/2^k)≤j:=λj=>by
  rw[agR,agR,dN hp,eL,bL]
 have ha:=(key (amC (n/2^k))).2 (bA _);have hk:k≤amC n:=eP (blU.2 h);have hb:=(key (amC n-k)).1 aA;omega
theorem bmQ(hx:x<4294967296):∃y n:Nat,(if 65536≤x then x/65536 else x)=y∧(if 65536≤x then(16:Int)else 0)=n∧y<65536∧amC x=n+amC y:=by
 by_cases h:65536≤x
 ·exact⟨x/65536,16,aM h,aM h,by omega,aiW (k:=16) h rfl⟩
 exact⟨x,0,aL h,aL h,by omega,by omega⟩
theorem boK{y:Nat}(hy:y<65536):∃z m:Nat,(if 256≤y then y/256 else y)=z∧(if 256≤y then(n:Int)+8 else n)=m∧z<256∧n+amC y=m+amC z:=by
 by_cases h:256≤y
 ·exact⟨y/256,n+8,aM h,by rw[aM h];simp,by omega,by rw[aiW (n:=y) (k:=8) (m:=y/256) h rfl];omega⟩
 exact⟨y,n,aL h,aL h,by omega,rfl⟩
def len8tab:List UInt8:=[0,1,2,2,3,3,3,3,4,4,4,4,4,4,4,4,5,5,5,5,5,5,5,5,5,5,5,5,5,5,5,5,6,6,6,6,6,6,6,6,6,6,6,6,6,6,6,6,6,6,6,6,6,6,6,6,6,6,6,6,6,6,6,6,7,7,7,7,7,7,7,7,7,7,7,7,7,7,7,7,7,7,7,7,7,7,7,7,7,7,7,7,7,7,7,7,7,7,7,7,7,7,7,7,7,7,7,7,7,7,7,7,7,7,7,7,7,7,7,7,7,7,7,7,7,7,7,7]++List.replicate 128 8
theorem blY{z:Nat}(h:z<256):(len8tab.getD z 0).toNat=amC z:=by
 have key:∀z:Fin 256,(len8tab.getD z.1 0).toNat=amC z.1:=by decide+kernel
 exact key ⟨z,h⟩
theorem azM(h:0<n):amC n=32*((zK n).length-1)+amC ((zK n).getD ((zK n).length-1) 0):=by
 induction n using Nat.strongRecOn with
 |ind n ih=>
  rw[aaI h];rcases bJ (n/4294967296)with h0|h0
  ·rw[h0,abR];simp;congr 1;omega
  have:=ih _ aA h0;have hpos:0<(zK (n/4294967296)).length:=by rw[aaI h0];simp
  rw[aiW (n:=n) (k:=32) aA rfl,show(2:Nat)^32=4294967296 by decide,this,aW,show(zK (n/4294967296)).length+1-1=((zK (n/4294967296)).length-1)+1 by omega,cF];omega
theorem ajH(h:(zK a).length<(zK b).length):a<b:=by
 rcases bO a b with h1|h1
 ·exact h1
 have h2:(zK a).length≤(zK a).length:=bA _;rw[qS]at h2;have h3:=qS.2 (bG h1 h2);omega
theorem akF(hx:Limbs xs)(hy:Limbs ys)(hl:xs.length=ys.length)(hk:k<xs.length)(hs:xs.drop (k+1)=ys.drop (k+1))(h:xs.getD k 0<ys.getD k 0):val xs<val ys:=by
 have e1:val xs=val (xs.take k)+4294967296^k*(xs.getD k 0+4294967296*val (xs.drop (k+1))):=by
  conv=>lhs;rw[←cE k xs,aaZ,cC hk,val,aU,cR aA]
  rw[aS,aR hk];rfl
 have hk':k<ys.length:=by omega
 have e2:val ys=val (ys.take k)+4294967296^k*(ys.getD k 0+4294967296*val (ys.drop (k+1))):=by
  conv=>lhs;rw[←cE k ys,aaZ,cC hk',val,aU,cR aA]
  rw[aS,aR hk'];rfl
 have h1:=amV (hx.take k);rw[aU,cR aA]at h1;rw[e1,e2,hs];generalize val (ys.drop (k+1))=z;have h2:4294967296^k*(xs.getD k 0+4294967296*z+1)≤4294967296^k*(ys.getD k 0+4294967296*z):=eJ _ aA;rw[bZ,Nat.mul_one]at h2;omega
section
open Go Go.RowKit
set_option maxRecDepth 100000
theorem azQ(xs:List Nat)(tl:Tail)(hx:Limbs xs)(hl:xs.length≤1000000)(H:Heap):ACall prog 171 [.slice 1 (U .u32 xs) tl] H (λy H'=>y=aaS (val xs)∧H'=H):=by
 have hr:=aaO xs;refine ACall.of_body func171 rfl ntmps171 results171 rfl ?_;refine .sr ?_;refine .p rfl (zC (aaV (sz:=1) (tl:=.full))) ?_;refine .nr (.mv rfl rfl (.cl rfl C240 (evs1 rfl) (abL _ _ aB aB _) (.s rfl (qK (_) U159 typeInfo210 Z210 V210 (tm rfl) (tm rfl) rfl rfl aC aA) ?_)));rintro _ _ ⟨b6,rfl,hb6,hH⟩;obtain rfl:=hH.symm;refine .as rfl rfl (.nr (.mv rfl rfl (.mv rfl rfl (.e rfl (aiH U159 Z210 (tm rfl) (tm rfl) (oS _ _ _) (by(simp;done))) ?_))));try first|rw[sS]|rw[sU aB]
 refine .nr (.mv rfl rfl (.as rfl rfl (.ng ?_)));refine AWP.frzU (t:=2) rfl hb6 (by simp<;>omega) (bA _) (by simp only[zT];omega) ?_;refine .ret ?_;refine Ret.go (.cons (.tmp _ _ rfl) .nil) _ (hRa _) ?_;refine⟨?_,rfl⟩;simp only[yN,aaS];rw[←adN hx,copied hr]
theorem avG(x:Nat)(hx:x<4294967296)(H:Heap):ACall prog 281 [.int .u32 (x:Int)] H (λy H'=>y= .int .i64 (amC x:Int)∧H'=H):=by
 have hb32:∀z,z<256→amC z≤8:=λz hz=>agR.2 hz;refine ACall.of_body func281 rfl ntmps281 results281 rfl ?_;refine .sr (.p rfl (zC zG) (.ng ?_));refine AWP.seqToL [(0,.int .u32 ((if 65536≤x then x/65536 else x:Nat):Int)),(2,.int .i64 (if 65536≤x then 16 else 0))] [] ?_ ?_
 ·refine .sr (.mv rfl rfl (.p rfl (adE (tm rfl) (yQ 65536)) (.ng ?_)));refine AWP.cond (tm rfl) (λhc4=>?_) (λhc4=>?_)
  ·try simp only[aV]at hc4
   refine .sr (.mv rfl rfl (.p rfl (aiO (tm rfl) (yQ 16) aB) (.as rfl rfl (.ng (.region (.p rfl (zC zG) (.nil ?_)))))));exact⟨rfl,(yD rfl (by rw[aJ]) (yD rfl (by rw[aJ]) yF)),rfl⟩
  try simp only[aT,Int.not_le]at hc4
  refine .skip ?_;exact⟨rfl,(yD rfl (by rw[aI]) (yD rfl (by rw[aI]) yF)),rfl⟩
 refine AWP.sub [(0,_),(2,_)] (zJ rfl (zJ rfl yF)) ?_;obtain⟨y,n,hy,hn,hyx,hbl⟩:=bmQ hx;rw[hy,hn];refine AWP.seqToL [(0,.int .u32 ((if 256≤y then y/256 else y:Nat):Int)),(2,.int .i64 (if 256≤y then(n:Int)+8 else n))] [] ?_ ?_
 ·refine .sr (.mv rfl rfl (.p rfl (adE (tm rfl) (yQ 256)) (.ng ?_)));refine AWP.cond (tm rfl) (λhc8=>?_) (λhc8=>?_)
  ·try simp only[aV]at hc8
   refine .sr (.mv rfl rfl (.p rfl (aiO (tm rfl) (yQ 8) aA) (.as rfl rfl (.ng (.region (.mv rfl rfl (.p rfl (yZ (tm rfl) zG aA) (.as rfl rfl ?_))))))));refine .nil ?_;exact⟨rfl,(yD rfl (by rw[aJ]) (yD rfl (by rw[aJ]) yF)),rfl⟩
  try simp only[aT,Int.not_le]at hc8
  refine .skip ?_;exact⟨rfl,(yD rfl (by rw[aI]) (yD rfl (by rw[aI]) yF)),rfl⟩
 refine AWP.sub [(0,_),(2,_)] (zJ rfl (zJ rfl yF)) ?_;obtain⟨z,m,hz,hm,hzx,hbz⟩:=boK (n:=n) hyx;rw[hz,hm];have hz8:=hb32 z hzx;have hx32:=(agR (n:=x) (k:=32)).2 hx;refine .sr (.mv rfl rfl (.mv rfl rfl (.p rfl (abB U210 U5 rfl (tm rfl)) ?_)));refine .p rfl (apB (r:=amC z) len8tab U9 (zM rfl) (tm rfl) aD (by simp only[IntKind.bits];show _<256;omega) (by rw[show z%2^IntKind.u8.bits=z from bQ hzx];exact blY hzx)) ?_;refine .p rfl (qQ U5 U3 (tm rfl) (wrapNI64 aA)) (.p rfl (yZ (tm rfl) (tm rfl) aA) (.as rfl rfl (.ng (.ret ?_))));refine Ret.go (.cons (.tmp _ _ rfl) .nil) _ (hRa _) ?_;refine⟨?_,rfl⟩;rw[hbl,hbz];simp[yN]
end
theorem ahV(h:xs.length≤i):xs.getD i 0=0:=by
 grind
theorem qG(xs:List Nat)(i:Nat):val (xs.take (i+1))=val (xs.take i)+4294967296^i*xs.getD i 0:=by
 rcases bO i xs.length with h|h
 ·exact aoH h
 rw[ahV h,aX aA,aX h];omega
theorem adA(h:i<zs.length):val ((zs.set i v).take (i+1))=val (zs.take i)+4294967296^i*v:=by
 rw[qG,List.take_set_of_le (bA _)];rw[aS,List.getElem?_set_self h];rfl
theorem Limbs.set(h:Limbs zs)(hv:v<4294967296):Limbs (zs.set i v):=λy hy=>by
 rcases List.mem_or_eq_of_mem_set hy with h1|h1
 ·exact h y h1
 rw[h1];exact hv
theorem akR(h:Limbs xs):256<yS xs↔BIG≤val xs:=by
 rw[abG h];have:=@qS (val xs) 256;unfold BIG;omega
theorem arP{n:Nat}:256<(zK n).length↔BIG≤n:=by
 have:=@qS n 256;unfold BIG;omega
theorem biI(hi:i<zs.length)(h:val (zs.take i)+4294967296^i*c=val (xs.take i)+val (ys.take i)):
  val ((zs.set i ((xs.getD i 0+ys.getD i 0+c)%4294967296)).take (i+1))+4294967296^(i+1)*((xs.getD i 0+ys.getD i 0+c)/4294967296)=val (xs.take (i+1))+val (ys.take (i+1)):=by
 rw[adA hi,qG xs,qG ys,cB];generalize xs.getD i 0=x at *;generalize ys.getD i 0=y at *;generalize 4294967296^i=B at *;have e:B*((x+y+c)%4294967296)+B*4294967296*((x+y+c)/4294967296)=B*(x+y+c):=by
  rw[bY,←bZ,Nat.mod_add_div]
 have e2:B*(x+y+c)=B*x+B*y+B*c:=by rw[bZ,bZ]
 omega
theorem bmS(hz:zs.length=n+1)(hx:xs.length=n)(hy:ys.length≤n)(h:val (zs.take n)+4294967296^n*c=val (xs.take n)+val (ys.take n)):val (zs.set n c)=val xs+val ys:=by
 have e:=adA (zs:=zs) (i:=n) (v:=c) aA;rw[aX aG]at e;rw[e,h,aX aA,aX aA]
def beR(a b:Nat):Int:=if a<b then-1 else if b<a then 1 else 0
theorem beI(hl:xs.length=ys.length)(hk:k<xs.length)(hs:xs.drop (k+1)=ys.drop (k+1))(he:xs.getD k 0=ys.getD k 0):xs.drop k=ys.drop k:=by
 rw[cC hk,cC (by omega:k<ys.length),hs];congr 1;rw[aS,aS,aR hk,aR (by omega:k<ys.length)]at he;simpa using he
section
open Go Go.RowKit
set_option maxRecDepth 100000
theorem acD(v:Nat)(hv:v<18446744073709551616)(H:Heap):ACall prog 93 [.int .u64 (v:Int)] H (λy H'=>y=aaS v∧H'=H):=by
 refine ACall.of_body func93 rfl ntmps93 results93 rfl ?_;refine .sr ?_;refine .p rfl (zC (aaV (sz:=1) (tl:=.full))) ?_;refine .nr (.mv rfl rfl (.p rfl (abB U25 U210 rfl (tm rfl)) (.mv rfl rfl (.p rfl (adS (tm rfl) (yQ 32) aB) (.p rfl (abB U25 U210 rfl (tm rfl)) (.e rfl (acB U159 Z210 V210 rfl (tm rfl) (.inl rfl) ⟨rfl,rfl⟩ (tm rfl) (.inl rfl) ⟨rfl,rfl⟩) ?_))))));refine .cl rfl call171 (evs1 rfl) (azQ [v%2^IntKind.u32.bits,v/2^32%2^IntKind.u32.bits] .full (Limbs.mk (by simp only[IntKind.bits];omega) (Limbs.mk (by simp only[IntKind.bits];omega) Limbs.nil)) aF _) ?_;refine .as rfl rfl (.ng (.ret ?_));refine Ret.go (.cons (.tmp _ _ rfl) .nil) _ (hRa _) ?_;refine⟨?_,rfl⟩;show aaS _=_;congr 1;simp only[val,IntKind.bits];omega
theorem bfF(xs:List Nat)(tl:Tail)(hx:Limbs xs)(hl:xs.length≤1000000)(H:Heap):ACall prog 241 [.slice 1 (U .u32 xs) tl] H (λy H'=>y= .int .i64 (amC (val xs):Int)∧H'=H):=by
 have hr:=aaO xs;have hrl:=abG hx;refine ACall.of_body func241 rfl ntmps241 results241 rfl ?_;refine .sr (.p rfl (zC zG) (.nr (.mv rfl rfl (.cl rfl C194 (evs1 rfl) (qT _ _ aB aB _) (.as rfl rfl (.ng (.seq (.sr ?_))))))));refine .mv rfl rfl (.p rfl (yM U159 (tm rfl)) (.p rfl (aaR (tm rfl) zG) (.ng ?_)));refine AWP.cond (tm rfl) (λhc7=>?_) (λhc7=>?_)
 ·try simp only[aV]at hc7
  refine .sr (.p rfl (zC zG) (.ng (.ret ?_)));refine Next.rt ?_;refine Ret.go (.cons (.tmp _ _ rfl) .nil) _ (hRa _) ?_;refine⟨?_,rfl⟩;have h0:val xs=0:=by
   rcases bJ (val xs)with h|h
   ·exact h
   rw[aaI h]at hc7;simp at hc7;omega
  rw[h0];rfl
 try simp only[aT]at hc7
 have hpos:0<val xs:=by
  rcases bJ (val xs)with h|h
  ·rw[h,abR]at hc7;exact absurd rfl hc7
  exact h
 have hbl:=azM hpos;have hlb:=(agR (n:=(zK (val xs)).getD ((zK (val xs)).length-1) 0) (k:=32)).2 (Limbs.getD (zS _) _);refine .skip ?_;refine Next.go ?_;refine .sr (.mv rfl rfl (.p rfl (yM U159 (tm rfl)) (.p rfl (aaD (tm rfl) zG aA) (.p rfl (aoZ zG (tm rfl) aA) (.mv rfl rfl (.mv rfl rfl (.p rfl (yM U159 (tm rfl)) (.p rfl (aaD (tm rfl) zG aA) ?_))))))));refine .p rfl (yW ((zK (val xs)).length-1) U159 Z210 (tm rfl) (tm rfl) aA aA) (.p rfl (zV G210 (tm rfl)) (.cl rfl call281 (evs1 rfl) (avG _ (Limbs.getD (zS _) _) _) (.p rfl (yZ (tm rfl) (tm rfl) aA) (.as rfl rfl (.ng (.ret ?_))))));refine Ret.go (.cons (.tmp _ _ rfl) .nil) _ (hRa _) ?_;refine⟨?_,rfl⟩;simp only[yN];congr 1;omega
def boI(xs ys:List Nat)(H:Heap):Nat→Env→Heap→Prop:=λk env H1=>∃i:Nat,i≤xs.length∧xs.drop (xs.length-i)=ys.drop (xs.length-i)∧env=[(0,.slice 1 (U .u32 xs) .shared),(1,.slice 1 (U .u32 ys) .shared),(22,.int .i64 (xs.length:Int)),(23,.int .i64 (i:Int))]∧H=H1∧k=xs.length-i
theorem bfH(xs:List Nat)(tl:Tail)(hx:Limbs xs)(hl:xs.length≤1000000)(ys:List Nat)(tl2:Tail)(hy:Limbs ys)(hm:ys.length≤1000000)(H:Heap):ACall prog 189 [.slice 1 (U .u32 xs) tl,.slice 1 (U .u32 ys) tl2] H (λy H'=>y= .int .i64 (beR (val xs) (val ys))∧H'=H):=by
 have hr:=aaO xs;have hrl:=abG hx;have hs:=aaO ys;have hsl:=abG hy;refine ACall.of_body func189 rfl ntmps189 results189 rfl ?_;refine .sr (.p rfl (zC zG) (.nr (.mv rfl rfl (.cl rfl C194 (evs1 rfl) (qT _ _ aB aB _) (.mv rfl rfl (.cl rfl C194 (evs1 rfl) (qT _ _ aB aB _) (.as rfl rfl (.as rfl rfl ?_))))))));refine .ng (.seq (.sr (.mv rfl rfl (.p rfl (yM U159 (tm rfl)) (.mv rfl rfl (.p rfl (yM U159 (tm rfl)) (.p rfl (ahH (tm rfl) (tm rfl)) (.ng ?_))))))));refine AWP.cond (tm rfl) (λhc15=>?_) (λhc15=>?_)
 ·try simp only[aV,ne_eq]at hc15
  refine .seq (.sr (.mv rfl rfl (.p rfl (yM U159 (tm rfl)) (.mv rfl rfl (.p rfl (yM U159 (tm rfl)) (.p rfl (aaQ (tm rfl) (tm rfl)) (.ng ?_)))))));refine AWP.cond (tm rfl) (λhc20=>?_) (λhc20=>?_)
  ·try simp only[aV]at hc20
   refine .sr (.p rfl (zC zG) (.ng (.ret ?_)));refine Next.rt ?_;refine Next.rt ?_;refine Ret.go (.cons (.tmp _ _ rfl) .nil) _ (hRa _) ?_;refine⟨?_,rfl⟩;rw[beR,aM (ajH aA)];rfl
  try simp only[aT,cI]at hc20
  refine .skip ?_;refine Next.go ?_;refine .sr (.p rfl (zC zG) (.ng (.ret ?_)));refine Next.rt ?_;refine Ret.go (.cons (.tmp _ _ rfl) .nil) _ (hRa _) ?_;refine⟨?_,rfl⟩;have:=ajH (a:=val ys) (b:=val xs) aA;rw[beR,aI,aM this];rfl
 try simp only[aT,ne_eq,Decidable.not_not]at hc15
 have hLx:=zS (val xs);have hLy:=zS (val ys);have hvx:=yG (val xs);have hvy:=yG (val ys);have hlen:(zK (val xs)).length=(zK (val ys)).length:=by omega
 refine .skip ?_;refine Next.go ?_;refine .seq (.sr (.mv rfl rfl (.p rfl (yM U159 (tm rfl)) (.p rfl (zD zG) (.ng (.block ?_))))));refine AWP.loopW (boI (zK (val xs)) (zK (val ys)) H) ((zK (val xs)).length) ⟨0,Nat.zero_le _,by rw[Nat.sub_zero,List.drop_length,hlen,List.drop_length],rfl,rfl,rfl⟩ (zJ rfl (zJ rfl (zJ rfl (zJ rfl yF)))) (hRa _) ?_;rintro _ _ _ ⟨i,hi,hd,rfl,rfl,rfl⟩;refine .sr (.p rfl (aaQ (tm rfl) (tm rfl)) (.ng (.seq ?_)));refine AWP.cond (tm rfl) (λhc24=>?_) (λhc24=>?_)
 ·try simp only[aV]at hc24
  have hds:(zK (val xs)).drop ((zK (val xs)).length-1-i+1)=(zK (val ys)).drop ((zK (val xs)).length-1-i+1):=by rw[show(zK (val xs)).length-1-i+1=(zK (val xs)).length-i by omega];exact hd
  refine .skip ?_;refine Next.go ?_;refine .seq (.block (.sr (.mv rfl rfl (.as rfl rfl (.nr (.mv rfl rfl (.p rfl (yM U159 (tm rfl)) (.p rfl (aaD (tm rfl) zG aA) ?_))))))));refine .mv rfl rfl (.p rfl (aaD (tm rfl) (tm rfl) aA) (.as rfl rfl (.ng (.block (.seq ?_)))));refine AWP.draw [(0,true),(1,true),(2,true),(3,true),(4,true),(5,true),(6,true),(7,true),(8,true),(9,true)] rfl aE ?_;refine .p rfl rfl (zD (tm rfl)) (.p rfl rfl (zD (tm rfl)) (.p rfl rfl (yW ((zK (val xs)).length-1-i) U159 Z210 (tm rfl) (tm rfl) aA aA) (.p rfl rfl (zV G210 (tm rfl)) (.p rfl rfl (zD (tm rfl)) (.p rfl rfl (zD (tm rfl)) (.p rfl rfl (yW ((zK (val xs)).length-1-i) U159 Z210 (tm rfl) (tm rfl) aA aA) (.p rfl rfl (zV G210 (tm rfl)) (.p rfl rfl (aaQ (tm rfl) (tm rfl)) ?_))))))));refine .p rfl rfl (zC (tm rfl)) (.nil ?_);refine Next.go ?_;refine AWP.cond (tm rfl) (λhc31=>?_) (λhc31=>?_)
  ·try simp only[aV]at hc31
   refine .sr (.p rfl (zC zG) (.ng (.ret ?_)));refine Block.rt ?_;refine Block.rt ?_;refine Next.rt ?_;refine Next.rt ?_;refine Block.rt ?_;refine Next.rt ?_;refine Ret.go (.cons (.tmp _ _ rfl) .nil) _ (hRa _) ?_;refine⟨?_,rfl⟩;have:=akF hLx hLy hlen (k:=(zK (val xs)).length-1-i) aA hds aA;rw[hvx,hvy]at this;rw[beR,aJ];rfl
  try simp only[aT,cI]at hc31
  refine .seq ?_;refine AWP.draw [(0,true),(1,true),(2,true),(3,true),(4,true),(5,true),(6,true),(7,true),(8,true),(9,true)] rfl aE ?_;refine .p rfl rfl (zD (tm rfl)) (.p rfl rfl (zD (tm rfl)) (.p rfl rfl (yW ((zK (val xs)).length-1-i) U159 Z210 (tm rfl) (tm rfl) aA aA) (.p rfl rfl (zV G210 (tm rfl)) (.p rfl rfl (zD (tm rfl)) (.p rfl rfl (zD (tm rfl)) (.p rfl rfl (yW ((zK (val xs)).length-1-i) U159 Z210 (tm rfl) (tm rfl) aA aA) (.p rfl rfl (zV G210 (tm rfl)) (.p rfl rfl (abW (tm rfl) (tm rfl)) ?_))))))));refine .p rfl rfl (zC (tm rfl)) (.nil ?_);refine Next.go ?_;refine AWP.cond (tm rfl) (λhc41=>?_) (λhc41=>?_)
  ·try simp only[aV]at hc41
   refine .sr (.p rfl (zC zG) (.ng (.ret ?_)));refine Block.rt ?_;refine Block.rt ?_;refine Next.rt ?_;refine Next.rt ?_;refine Block.rt ?_;refine Next.rt ?_;refine Ret.go (.cons (.tmp _ _ rfl) .nil) _ (hRa _) ?_;refine⟨?_,rfl⟩;have:=akF hLy hLx hlen.symm (k:=(zK (val xs)).length-1-i) aA hds.symm aA;rw[hvx,hvy]at this;rw[beR,aI,aJ];rfl
  try simp only[aT,cI]at hc41
  refine .skip ?_;refine Block.go ?_;refine Block.go ?_;refine Next.go ?_;refine .region (.p rfl (yZ (tm rfl) zG aA) (.mv rfl rfl (.ng ?_)));refine Round.mk (J:=boI (zK (val xs)) (zK (val ys)) H) ⟨i+1,by omega,by rw[show(zK (val xs)).length-(i+1)=(zK (val xs)).length-1-i by omega];exact beI hlen aA hds aA,rfl,rfl,rfl⟩ (zJ rfl (zJ rfl (zJ rfl (zJ rfl yF)))) (hRa _) aA
 try simp only[aT,cI]at hc24
 refine .exit ?_;refine Next.ex ?_;refine Next.ex ?_;refine Block.hit ?_;refine Next.go ?_;refine .sr (.p rfl (zC zG) (.ng (.ret ?_)));refine Ret.go (.cons (.tmp _ _ rfl) .nil) _ (hRa _) ?_;refine⟨?_,rfl⟩;have h0:(zK (val xs)).length-i=0:=by omega
 have hxy:zK (val xs)=zK (val ys):=by rw[h0]at hd;simpa using hd
 rw[bdQ hxy,beR,aL (Nat.lt_irrefl _),aL (Nat.lt_irrefl _)];rfl
end
theorem bfI:∀k,k=32*256→BIG=2^k:=by intro k hk;unfold BIG;rw[show(4294967296:Nat)=2^32 by decide,←Nat.pow_mul,hk]
theorem bcU(h:a<2^k):(b*2^k)|||a=b*2^k+a:=by
 rw[bL,Nat.two_pow_add_eq_or_of_lt h]
theorem bcT(h:a<2^k):a|||(b*2^k)=a+b*2^k:=by
 rw[Nat.or_comm,bcU h,Nat.add_comm]
theorem asT(h:i<zs.length):val (zs.set i v)+4294967296^i*zs.getD i 0=val zs+4294967296^i*v:=by
 induction zs generalizing i with
 |nil=>simp at h
 |cons z zs ih=>
  cases i with
  |zero=>simp[val];omega
  |succ i=>
   have:=ih (i:=i) (by simpa using h);rw[List.set_cons_succ,val,val,cF,cB];generalize 4294967296^i=B at *;generalize zs.getD i 0=x at *;have e1:B*4294967296*x=4294967296*(B*x):=by rw[bL B,bY]
   have e2:B*4294967296*v=4294967296*(B*v):=by rw[bL B,bY]
   rw[e1,e2];omega
theorem getD_set_ne{j:Nat}(h:i≠j):(zs.set i v).getD j 0=zs.getD j 0:=by
 grind
theorem bhQ(n j:Nat):(List.replicate n 0).getD j 0=0:=by
 grind
theorem bhD{y o:Nat}(hx:x<4294967296)(hy:y<4294967296)(ho:o<4294967296)(hc:c<4294967296):x*y+o+c<18446744073709551616:=by
 have:x*y≤4294967295*4294967295:=dY aA aA;omega
theorem bhC{o0:List Nat}(hi:i+k<zs.length)(h:val zs+4294967296^(i+k)*c=val o0+4294967296^i*xs.getD i 0*val (ys.take k)):
  val (zs.set (i+k) ((xs.getD i 0*ys.getD k 0+zs.getD (i+k) 0+c)%4294967296))+4294967296^(i+(k+1))*((xs.getD i 0*ys.getD k 0+zs.getD (i+k) 0+c)/4294967296)=val o0+4294967296^i*xs.getD i 0*val (ys.take (k+1)):=by
 have e:=asT (zs:=zs) (i:=i+k) (v:=(xs.getD i 0*ys.getD k 0+zs.getD (i+k) 0+c)%4294967296) hi;rw[qG ys,←dG,cB];rw[eL]at *;generalize xs.getD i 0=x at *;generalize ys.getD k 0=y at *;generalize zs.getD (i+k) 0=o at *;generalize 4294967296^i=A at *;generalize 4294967296^k=B at *;generalize val (ys.take k)=w at *;generalize val (zs.set (i+k) ((x*y+o+c)%4294967296))=u at *;have e3:A*B*((x*y+o+c)%4294967296)+A*B*4294967296*((x*y+o+c)/4294967296)=A*B*(x*y+o+c):=by
  rw[bY (A*B),←bZ,Nat.mod_add_div]
 have e4:A*B*(x*y+o+c)=A*x*(B*y)+A*B*o+A*B*c:=by
  rw[bZ,bZ];congr 2;rw[bY,bY,Nat.mul_left_comm B x y]
 rw[bZ];omega
theorem blP{o0:List Nat}{m:Nat}(hm:ys.length=m)(hi:i+m<zs.length)(hz:zs.getD (i+m) 0=0)(h0:val o0=val (xs.take i)*val ys)(h:val zs+4294967296^(i+m)*c=val o0+4294967296^i*xs.getD i 0*val (ys.take m)):
  val (zs.set (i+m) c)=val (xs.take (i+1))*val ys:=by
 have e:=asT (zs:=zs) (i:=i+m) (v:=c) hi;rw[hz,Nat.mul_zero,cN]at e;have ey:ys.take m=ys:=aX aA;rw[e,h,h0,ey,qG,bM]
theorem axS{ws:List Nat}{s:Nat}(hi:i<ws.length)(hs:s≤32)(hx:xs.getD i 0<4294967296)(hc:c<2^s)(h:val (ws.take i)+4294967296^i*c=val (xs.take i)*2^s):
  val ((ws.set i ((c+xs.getD i 0*2^s)%4294967296)).take (i+1))+4294967296^(i+1)*((c+xs.getD i 0*2^s)/4294967296)=val (xs.take (i+1))*2^s∧(c+xs.getD i 0*2^s)/4294967296<2^s∧c+xs.getD i 0*2^s<18446744073709551616:=by
 refine⟨?_,?_,?_⟩
 ·rw[adA hi,qG xs,cB,bM,←h];generalize xs.getD i 0=x at *;generalize 4294967296^i=B at *;generalize 2^s=S at *;have e3:B*((c+x*S)%4294967296)+B*4294967296*((c+x*S)/4294967296)=B*(c+x*S):=by
   rw[bY B,←bZ,Nat.mod_add_div]
  rw[bZ,←bY]at e3;omega
 ·rw[dN aC];have:xs.getD i 0*2^s≤4294967295*2^s:=bC _ aA;omega
 have h1:xs.getD i 0*2^s≤4294967295*2^s:=bC _ aA;have h2:2^s≤2^32:=bU aC hs;omega
theorem bfY{ws:List Nat}(hL:Limbs ws)(hn:ws.length=n)(h:val (ws.take n)+4294967296^n*c=v):val ws=v%4294967296^n:=by
 have:=amV hL;rw[hn]at this;rw[aX aA]at h;rw[←h,cY,bQ this]
theorem axQ{z0:List Nat}{d:Nat}(hd:0<d)(hk:k<zs.length)(hl:zs.length=z0.length)(hg:zs.getD k 0=z0.getD k 0)(h:val (zs.drop (k+1))*d+r=val (z0.drop (k+1))):
  val ((zs.set k ((r*4294967296+z0.getD k 0)/d)).drop k)*d+(r*4294967296+z0.getD k 0)%d=val (z0.drop k):=by
 have hk0:k<z0.length:=by omega
 have e1:(zs.set k ((r*4294967296+z0.getD k 0)/d)).drop k=(r*4294967296+z0.getD k 0)/d::zs.drop (k+1):=by
  rw[cC (by simpa using hk),List.getElem_set_self,List.drop_set_of_lt aA]
 have e2:z0.drop k=z0.getD k 0::z0.drop (k+1):=by
  rw[cC hk0,aS,aR hk0];rfl
 rw[e1,e2,val,val,←h];generalize z0.getD k 0=x;generalize val (zs.drop (k+1))=w;have e3:=dV (r*4294967296+x) d;generalize(r*4294967296+x)/d=q at *;generalize(r*4294967296+x)%d=m at *;rw[bM,bL q d,bY,bZ 4294967296 (w*d) r];omega
theorem axR{d:Nat}(hr:r<d)(hx:x<4294967296)(hd:d<4294967296):(r*4294967296+x)/d<4294967296∧r*4294967296+x<18446744073709551616:=by
 refine⟨?_,by omega⟩;rw[dN aA];have:(r+1)*4294967296≤d*4294967296:=bC _ hr;omega
section
open Go Go.RowKit
set_option maxRecDepth 100000
def bjG(p:Prop)[Decidable p](v:Nat):AV:=.tuple [aaS (if p then v else 0),.int .i64 (if p then 0 else 2)]
theorem anF{p:Prop}[Decidable p](h:p):bjG p v= .tuple [aaS v,.int .i64 0]:=by unfold bjG;rw[aM h,aM h]
theorem aqX{p:Prop}[Decidable p](h:¬p):bjG p v= .tuple [aaS 0,.int .i64 2]:=by unfold bjG;rw[aL h,aL h]
theorem axY{p q:Prop}[Decidable p][Decidable q](h:p↔q):bjG p v=bjG q v:=by
 by_cases hp:p
 ·rw[anF hp,anF (h.1 hp)]
 rw[aqX hp,aqX (λhq=>hp (h.2 hq))]
def bjV(v:Nat):AV:=bjG (v<BIG) v
def boX(a b:Nat):AV:=bjG (a<BIG∧b<BIG∧a*b<BIG) (a*b)
def boZ(p:List Nat×Tail):AV:=.slice 1 (U .u32 p.1) p.2
def bfR(p:List Nat×Tail):Bool:=decide (256<yS p.1)
theorem bfZ{α:Type}{l:List α}{q:α→Bool}(hi:i<l.length)(h:(l.take i).any q=false)(hq:q l[i]=false):(l.take (i+1)).any q=false:=by
 rw[←bN hi,List.any_append,h];simp[hq]
theorem bmB{α:Type}{l:List α}{q:α→Bool}(hi:i<l.length)(hq:q l[i]=true):l.any q=true:=by
 rw[List.any_eq_true];exact⟨l[i],bF hi,hq⟩
def bjN(l:List (List Nat×Tail))(tl:Tail)(H:Heap):Nat→Env→Heap→Prop:=λk env H1=>∃i:Nat,i≤l.length∧(l.take i).any bfR=false∧env=[(0,.slice 1 (l.map boZ) tl),(5,.slice 1 (l.map boZ) tl),(6,.int .i64 (l.length:Int)),(7,.int .i64 (i:Int))]∧H=H1∧k=l.length-i
theorem anN(l:List (List Nat×Tail))(tl:Tail)(hx:∀p,p∈l→Limbs p.1)(hl:∀p,p∈l→p.1.length≤1000000)(hL:l.length≤1000)(H:Heap):ACall prog 193 [.slice 1 (l.map boZ) tl] H (λy H'=>y= .bool (l.any bfR)∧H'=H):=by
 refine ACall.of_body func193 rfl ntmps193 results193 rfl ?_;refine .sr (.p rfl (zC zY) (.ng (.seq (.sr (.mv rfl rfl (.p rfl (ahI U314 (tm rfl)) (.p rfl (zD zG) (.ng ?_))))))));refine .block ?_;refine AWP.loopW (bjN l tl H) (l.length) ⟨0,Nat.zero_le _,rfl,rfl,rfl,rfl⟩ (zJ rfl (zJ rfl (zJ rfl (zJ rfl yF)))) (hRa _) ?_;rintro _ _ _ ⟨i,hi,hany,rfl,rfl,hk⟩;refine .sr (.p rfl (aaQ (tm rfl) (tm rfl)) (.ng (.seq ?_)));refine AWP.cond (tm rfl) (λhc8=>?_) (λhc8=>?_)
 ·try simp only[aV]at hc8
  have hi2:i<l.length:=by omega
  refine .skip ?_;refine Next.go ?_;refine .seq (.block (.sr (.p rfl (aeH U314 Z159 (tm rfl) (tm rfl) aA aA) (.p rfl (zV isAgg159 (tm rfl)) (.as rfl rfl (.nr (.mv rfl rfl (.cl rfl C240 (evs1 rfl) (abL l[i].1 l[i].2 (hx _ (bF hi2)) (hl _ (bF hi2)) _) ?_))))))));refine .p rfl (abW (tm rfl) zG) (.ng ?_);refine AWP.cond (tm rfl) (λhc13=>?_) (λhc13=>?_)
  ·try simp only[aV]at hc13
   have hb:bfR l[i]=true:=by unfold bfR;simp only[aV];omega
   refine .sr (.p rfl (zC zY) (.ng (.ret ?_)));refine Block.rt ?_;refine Next.rt ?_;refine Next.rt ?_;refine Block.rt ?_;refine Next.rt ?_;refine Ret.go (.cons (.tmp _ _ rfl) .nil) _ (hRa _) ?_;refine⟨?_,rfl⟩;rw[bmB hi2 hb];rfl
  try simp only[aT,cI]at hc13
  have hb:bfR l[i]=false:=by unfold bfR;simp only[aT];omega
  refine .skip ?_;refine Block.go ?_;refine Next.go ?_;refine .region (.p rfl (yZ (tm rfl) zG aA) (.mv rfl rfl (.ng ?_)));refine Round.mk (J:=bjN l tl H) ⟨i+1,by omega,bfZ hi2 hany hb,rfl,rfl,rfl⟩ (zJ rfl (zJ rfl (zJ rfl (zJ rfl yF)))) (hRa _) aA
 try simp only[aT,cI]at hc8
 refine .exit ?_;refine Next.ex ?_;refine Next.ex ?_;refine Block.hit ?_;refine Next.go ?_;refine .sr (.p rfl (zC zY) (.ng (.ret ?_)));refine Ret.go (.cons (.tmp _ _ rfl) .nil) _ (hRa _) ?_;refine⟨?_,rfl⟩;rw[aX aA]at hany;rw[hany];rfl
theorem anZ(xs:List Nat)(tl:Tail)(hx:Limbs xs)(hl:xs.length≤1000000)(H:Heap):ACall prog 195 [.slice 1 (U .u32 xs) tl] H (λy H'=>y=bjV (val xs)∧H'=H):=by
 have hb:=@arP (val xs);have hr:=aaO xs;have hrl:=abG hx;refine ACall.of_body func195 rfl ntmps195 results195 rfl ?_;refine .sr ?_;refine .p rfl (zC (aaV (sz:=1) (tl:=.shared))) ?_;refine .p rfl (zC zG) (.ng (.seq (.sr (.mv rfl rfl (.cl rfl C194 (evs1 rfl) (qT _ _ aB aB _) (.as rfl rfl (.nr (.mv rfl rfl ?_))))))));refine .p rfl (yM U159 (tm rfl)) (.p rfl (abW (tm rfl) zG) (.ng ?_));refine AWP.cond (tm rfl) (λhc8=>?_) (λhc8=>?_)
 ·try simp only[aV]at hc8
  refine .sr ?_;refine .p rfl (zC (aaV (sz:=1) (tl:=.shared))) ?_;refine .p rfl (zC zG) (.ng (.ret ?_));refine Next.rt ?_;refine Ret.go (.cons (.tmp _ _ rfl) (.cons (.tmp _ _ rfl) .nil)) _ (hRa _) ?_;refine⟨?_,rfl⟩;rw[bjV,aqX aA];rfl
 try simp only[aT,cI]at hc8
 refine .skip ?_;refine Next.go ?_;refine .sr (.mv rfl rfl (.as rfl rfl (.p rfl (zC zG) (.ng (.ret ?_)))));refine Ret.go (.cons (.tmp _ _ rfl) (.cons (.tmp _ _ rfl) .nil)) _ (hRa _) ?_;refine⟨?_,rfl⟩;rw[bjV,anF aA];rfl
theorem bkI{tl tl2:Tail}(hx:Limbs xs)(hy:Limbs ys):[(xs,tl),(ys,tl2)].any bfR=decide (BIG≤val xs∨BIG≤val ys):=by
 have h1:=akR hx;have h2:=akR hy;have e:∀a b:Prop,∀[Decidable a][Decidable b],(decide a||decide b)=decide (a∨b):=by intro a b _ _;by_cases a<;>by_cases b<;>simp_all
 simp only[List.any_cons,List.any_nil,Bool.or_false,bfR,h1,h2,e]
theorem blF{tl:Tail}(hx:Limbs xs):[(xs,tl)].any bfR=decide (BIG≤val xs):=by
 have h1:=akR hx;simp only[List.any_cons,List.any_nil,Bool.or_false,bfR,h1]
theorem alK(xs:List Nat)(tl tl3:Tail)(hx:Limbs xs)(hl:xs.length≤1000000):Fn 193 [.slice 1 [.slice 1 (U .u32 xs) tl] tl3] (.bool (decide (BIG≤val xs))):=by
 intro H;rw[←blF (tl:=tl) hx];exact anN [(xs,tl)] tl3 (by simpa using hx) (by simpa using hl) aF H
theorem agM(xs:List Nat)(tl:Tail)(hx:Limbs xs)(hl:xs.length≤1000000)(ys:List Nat)(tl2 tl3:Tail)(hy:Limbs ys)(hm:ys.length≤1000000):Fn 193 [.slice 1 [.slice 1 (U .u32 xs) tl,.slice 1 (U .u32 ys) tl2] tl3] (.bool (decide (BIG≤val xs∨BIG≤val ys))):=by
 intro H;rw[←bkI (tl:=tl) (tl2:=tl2) hx hy];refine anN [(xs,tl),(ys,tl2)] tl3 ?_ ?_ aF H
 ·intro p hp;rcases cM.1 hp with rfl|hp
  ·exact hx
  rcases cM.1 hp with rfl|hp
  ·exact hy
  simp at hp
 intro p hp;rcases cM.1 hp with rfl|hp
 ·exact hl
 rcases cM.1 hp with rfl|hp
 ·exact hm
 simp at hp
end
section
open Go Go.RowKit
set_option maxRecDepth 100000
def hiN(a b:Nat):Nat:=if(zK a).length<(zK b).length then b else a
def loN(a b:Nat):Nat:=if(zK a).length<(zK b).length then a else b
theorem bpB(a b:Nat):hiN a b+loN a b=a+b∧(zK (loN a b)).length≤(zK (hiN a b)).length:=by
 unfold hiN loN;split<;>omega
theorem abI(h:n<BIG):(zK n).length≤256:=by
 have:=@arP n;omega
theorem bpA(ha:a<BIG)(hb:b<BIG):hiN a b<BIG:=by unfold hiN;split<;>assumption
def boP(P Q:Nat)(b:Nat)(H:Heap):Nat→Env→Heap→Prop:=λk env H1=>∃(i c:Nat)(zs:List Nat),i≤(zK P).length∧zs.length=(zK P).length+1∧Limbs zs∧c≤1∧val (zs.take i)+4294967296^i*c=val ((zK P).take i)+val ((zK Q).take i)∧env=[(0,aaS P),(1,aaS Q),(6,.mslice (some ⟨b,0,none⟩) ((zK P).length+1) ((zK P).length+1)),(7,.int .u32 (c:Int)),(30,.int .i64 ((zK P).length:Int)),(31,.int .i64 (i:Int))]∧H1=H.set b (.box 210 (U .u32 zs))∧k=(zK P).length-i
theorem asO(xs:List Nat)(tl:Tail)(hx:Limbs xs)(hl:xs.length≤1000000)(ys:List Nat)(tl2:Tail)(hy:Limbs ys)(hm:ys.length≤1000000)(H:Heap):ACall prog 107 [.slice 1 (U .u32 xs) tl,.slice 1 (U .u32 ys) tl2] H (λy H'=>y=bjV (val xs+val ys)∧H'=H):=by
 refine ACall.of_body func107 rfl ntmps107 results107 rfl ?_;refine .sr ?_;refine .p rfl (zC (aaV (sz:=1) (tl:=.shared))) ?_;refine .p rfl (zC zG) (.ng (.seq (.sr (.mv rfl rfl (.mv rfl rfl (.e rfl (acB U314 Z159 V159 rfl (tm rfl) (.inl rfl) ⟨rfl,rfl⟩ (tm rfl) (.inl rfl) ⟨rfl,rfl⟩) (.cl rfl C193 (evs1 rfl) (agM _ _ aB aB _ _ _ aB aB _) (.ng ?_))))))));refine AWP.cond (tm rfl) (λhc13=>?_) (λhc13=>?_)
 ·try simp only[aV]at hc13
  refine .sr ?_;refine .p rfl (zC (aaV (sz:=1) (tl:=.shared))) ?_;refine .p rfl (zC zG) (.ng (.ret ?_));refine Next.rt ?_;refine Ret.go (.cons (.tmp _ _ rfl) (.cons (.tmp _ _ rfl) .nil)) _ (hRa _) ?_;refine⟨?_,rfl⟩;rw[bjV,aqX aA];rfl
 try simp only[aT]at hc13
 refine .skip ?_;refine Next.go ?_;refine .sr (.mv rfl rfl (.cl rfl C194 (evs1 rfl) (qT _ _ aB aB _) (.mv rfl rfl (.cl rfl C194 (evs1 rfl) (qT _ _ aB aB _) (.as rfl rfl (.as rfl rfl (.ng ?_)))))));refine AWP.seqToL [(0,aaS (hiN (val xs) (val ys))),(1,aaS (loN (val xs) (val ys)))] [4,5] ?_ ?_
 ·refine .sr (.mv rfl rfl (.p rfl (yM U159 (tm rfl)) (.mv rfl rfl (.p rfl (yM U159 (tm rfl)) (.p rfl (aaQ (tm rfl) (tm rfl)) (.ng ?_))))));refine AWP.cond (tm rfl) (λhc22=>?_) (λhc22=>?_)
  ·try simp only[aV]at hc22
   refine .region (.mv rfl rfl (.mv rfl rfl (.as rfl rfl (.as rfl rfl (.nil ?_)))));exact⟨rfl,(yD rfl (by simp only[hiN];split<;>first|rfl|omega) (yD rfl (by simp only[loN];split<;>first|rfl|omega) (zJ rfl (zJ rfl yF)))),rfl⟩
  try simp only[aT,cI]at hc22
  refine .skip ?_;exact⟨rfl,(yD rfl (by simp only[hiN];split<;>first|rfl|omega) (yD rfl (by simp only[loN];split<;>first|rfl|omega) (zJ rfl (zJ rfl yF)))),rfl⟩
 refine AWP.sub [(0,_),(1,_),(4,_),(5,_)] (zJ rfl (zJ rfl (zJ rfl (zJ rfl yF)))) ?_;have hs:=bpB (val xs) (val ys);have h256:=abI (bpA (a:=val xs) (b:=val ys) aA aA)
 revert hs h256
 generalize hiN (val xs) (val ys)=P;generalize loN (val xs) (val ys)=Q;intro hs h256;refine .sr (.mv rfl rfl (.p rfl (yM U159 (tm rfl)) (.p rfl (yZ (tm rfl) zG aA) (.s rfl (qK ((zK P).length+1) U159 typeInfo210 Z210 V210 (tm rfl) (tm rfl) aA aA aC aA) ?_))));rintro _ _ ⟨b28,rfl,hb28,hH⟩;obtain rfl:=hH.symm;refine .as rfl rfl (.nr (.p rfl (zC (yQ 0)) (.ng (.seq (.sr (.mv rfl rfl (.p rfl (yM U159 (tm rfl)) (.p rfl (zD zG) ?_))))))));refine .ng (.block ?_);refine AWP.loopW (boP P Q b28 H) ((zK P).length) ⟨0,0,List.replicate ((zK P).length+1) 0,Nat.zero_le _,by simp,Limbs.rep aA,by omega,rfl,rfl,rfl,rfl⟩ (zJ rfl (zJ rfl (zJ rfl (zJ rfl (zJ rfl (zJ rfl yF)))))) (hRa _) ?_;rintro _ _ _ ⟨i,c,zs,hi,hz,hzl,hc,hv,rfl,rfl,hk⟩;refine .sr (.p rfl (aaQ (tm rfl) (tm rfl)) (.ng (.seq ?_)));refine AWP.cond (tm rfl) (λhc32=>?_) (λhc32=>?_)
 ·try simp only[aV]at hc32
  refine .skip ?_;refine Next.go ?_;refine .seq (.block (.sr (.mv rfl rfl (.as rfl rfl (.nr (.p rfl (zC (yQ 0)) (.ng ?_)))))));refine AWP.seqToL [(9,.int .u32 (((zK Q).getD i 0:Nat):Int))] [0,1,6,7,30,31,8] ?_ ?_
  ·refine .sr (.mv rfl rfl (.mv rfl rfl (.p rfl (yM U159 (tm rfl)) (.p rfl (aaQ (tm rfl) (tm rfl)) (.ng ?_)))));refine AWP.cond (tm rfl) (λhc37=>?_) (λhc37=>?_)
   ·try simp only[aV]at hc37
    refine .region (.mv rfl rfl (.mv rfl rfl (.p rfl (yW (i) U159 Z210 (tm rfl) (tm rfl) aA aA) (.p rfl (zV G210 (tm rfl)) (.as rfl rfl (.nil ?_))))));exact⟨rfl,(yD rfl aD (zJ rfl (zJ rfl (zJ rfl (zJ rfl (zJ rfl (zJ rfl (zJ rfl yF)))))))),rfl⟩
   try simp only[aT,cI]at hc37
   refine .skip ?_;exact⟨rfl,(yD rfl (by(rw[ahV aA])) (zJ rfl (zJ rfl (zJ rfl (zJ rfl (zJ rfl (zJ rfl (zJ rfl yF)))))))),rfl⟩
  refine AWP.sub [(9,_),(0,_),(1,_),(6,_),(7,_),(30,_),(31,_),(8,_)] (zJ rfl (zJ rfl (zJ rfl (zJ rfl (zJ rfl (zJ rfl (zJ rfl (zJ rfl yF)))))))) ?_;refine .region (.mv rfl rfl (.mv rfl rfl (.mv rfl rfl (.mv rfl rfl (.p rfl (yW (i) U159 Z210 (tm rfl) (tm rfl) aA aA) (.p rfl (zV G210 (tm rfl)) (.mv rfl rfl (.mv rfl rfl ?_))))))));refine .cl rfl call196 (evs3 rfl rfl rfl) (avI _ _ _ (Limbs.getD (zS _) _) (Limbs.getD (zS _) _) aA _) (.mv rfl rfl (.p rfl (zQ (tm rfl) rfl) (.p rfl (zQ (tm rfl) rfl) (.p rfl (qM (i) U159 Z210 (tm rfl) (tm rfl) aA aA) (.e0 (aaE Z210 (tm rfl) (tm rfl) (oS _ _ _) aA) ?_)))));try first|rw[sS]|rw[sU aB]
  refine .as rfl rfl (.nil ?_);refine Block.go ?_;refine Next.go ?_;refine .region (.p rfl (yZ (tm rfl) zG aA) (.mv rfl rfl (.ng ?_)));refine Round.mk (J:=boP P Q b28 H) ⟨i+1,_,_,by omega,by simpa using hz,Limbs.set hzl aA,by have h1:=Limbs.getD (zS P) i;have h2:=Limbs.getD (zS Q) i;omega,biI aA hv,rfl,rfl,rfl⟩ (zJ rfl (zJ rfl (zJ rfl (zJ rfl (zJ rfl (zJ rfl yF)))))) (hRa _) aA
 try simp only[aT,cI]at hc32
 refine .exit ?_;refine Next.ex ?_;refine Next.ex ?_;refine Block.hit ?_;refine Next.go ?_;refine .sr (.mv rfl rfl (.mv rfl rfl (.p rfl (yM U159 (tm rfl)) (.mv rfl rfl (.p rfl (qM ((zK P).length) U159 Z210 (tm rfl) (tm rfl) aA aA) (.e0 (aaE Z210 (tm rfl) (tm rfl) (oS _ _ _) aA) ?_))))));try first|rw[sS]|rw[sU aB]
 refine .ng (.seq ?_);have hi2:i=(zK P).length:=by omega
 subst hi2;have hz2:zs.length≤(zK P).length+1:=by omega
 have hz3:(zK P).length<zs.length:=by omega
 have hv2:=bmS hz rfl hs.2 hv;rw[yG,yG]at hv2;refine AWP.frzU (t:=6) rfl hb28 (by simp<;>omega) (bA _) (by simp only[zT];omega) ?_;rw[aX (by simp<;>omega)];have hz4:=Limbs.set hzl (i:=(zK P).length) (v:=c) aA;have hz5:(zs.set (zK P).length c).length≤1000000:=by simp<;>omega
 refine .region (.mv rfl rfl (.cl rfl call195 (evs1 rfl) (anZ _ _ aB aB _) (.p rfl (zQ (tm rfl) rfl) (.p rfl (zQ (tm rfl) rfl) (.as rfl rfl (.as rfl rfl (.ng (.ret ?_))))))));refine Ret.go (.cons (.tmp _ _ rfl) (.cons (.tmp _ _ rfl) .nil)) _ (hRa _) ?_;refine⟨?_,rfl⟩;rw[←hs.1,←hv2];rfl
theorem avT(h:∀j,n≤j→zs.getD j 0=0)(hi:i<n):∀j,n≤j→(zs.set i v).getD j 0=0:=λj hj=>by
 rw[getD_set_ne aA,h j hj]
def bnW(P Q:Nat)(b:Nat)(H:Heap):Nat→Env→Heap→Prop:=λk env H1=>∃(i:Nat)(zs:List Nat),i≤(zK P).length∧zs.length=(zK P).length+(zK Q).length∧Limbs zs∧(∀j,i+(zK Q).length≤j→zs.getD j 0=0)∧val zs=val ((zK P).take i)*val (zK Q)∧env=[(0,aaS P),(1,aaS Q),(6,.mslice (some ⟨b,0,none⟩) ((zK P).length+(zK Q).length) ((zK P).length+(zK Q).length)),(26,.int .i64 ((zK P).length:Int)),(27,.int .i64 (i:Int))]∧H1=H.set b (.box 210 (U .u32 zs))∧k=(zK P).length-i
def bjQ(P Q:Nat)(b i:Nat)(o0:List Nat)(H:Heap):Nat→Env→Heap→Prop:=λk env H1=>∃(j c:Nat)(zs:List Nat),j≤(zK Q).length∧zs.length=(zK P).length+(zK Q).length∧Limbs zs∧c<4294967296∧(∀j,i+(zK Q).length≤j→zs.getD j 0=0)∧val zs+4294967296^(i+j)*c=val o0+4294967296^i*(zK P).getD i 0*val ((zK Q).take j)∧env=[(0,aaS P),(1,aaS Q),(6,.mslice (some ⟨b,0,none⟩) ((zK P).length+(zK Q).length) ((zK P).length+(zK Q).length)),(26,.int .i64 ((zK P).length:Int)),(27,.int .i64 (i:Int)),(7,.int .i64 (i:Int)),(8,.int .u64 (c:Int)),(31,.int .i64 ((zK Q).length:Int)),(32,.int .i64 (j:Int))]∧H1=H.set b (.box 210 (U .u32 zs))∧k=(zK Q).length-j
theorem bfE(xs:List Nat)(tl:Tail)(hx:Limbs xs)(hl:xs.length≤1000000)(ys:List Nat)(tl2:Tail)(hy:Limbs ys)(hm:ys.length≤1000000)(H:Heap):ACall prog 106 [.slice 1 (U .u32 xs) tl,.slice 1 (U .u32 ys) tl2] H (λy H'=>y=boX (val xs) (val ys)∧H'=H):=by
 refine ACall.of_body func106 rfl ntmps106 results106 rfl ?_;refine .sr ?_;refine .p rfl (zC (aaV (sz:=1) (tl:=.shared))) ?_;refine .p rfl (zC zG) (.ng (.seq (.sr (.mv rfl rfl (.mv rfl rfl (.e rfl (acB U314 Z159 V159 rfl (tm rfl) (.inl rfl) ⟨rfl,rfl⟩ (tm rfl) (.inl rfl) ⟨rfl,rfl⟩) (.cl rfl C193 (evs1 rfl) (agM _ _ aB aB _ _ _ aB aB _) (.ng ?_))))))));refine AWP.cond (tm rfl) (λhc14=>?_) (λhc14=>?_)
 ·try simp only[aV]at hc14
  refine .sr ?_;refine .p rfl (zC (aaV (sz:=1) (tl:=.shared))) ?_;refine .p rfl (zC zG) (.ng (.ret ?_));refine Next.rt ?_;refine Ret.go (.cons (.tmp _ _ rfl) (.cons (.tmp _ _ rfl) .nil)) _ (hRa _) ?_;refine⟨?_,rfl⟩;rw[boX,aqX aA];rfl
 try simp only[aT]at hc14
 refine .skip ?_;refine Next.go ?_;refine .sr (.mv rfl rfl (.cl rfl C194 (evs1 rfl) (qT _ _ aB aB _) (.mv rfl rfl (.cl rfl C194 (evs1 rfl) (qT _ _ aB aB _) (.as rfl rfl (.as rfl rfl (.ng (.seq ?_))))))));have h256:=abI (n:=val xs) aA;have h257:=abI (n:=val ys) aA;have hmul:boX (val xs) (val ys)=bjV (val xs*val ys):=by
  exact axY ⟨λh=>h.2.2,λh=>⟨by omega,by omega,h⟩⟩
 rw[hmul];generalize val xs=P at *;generalize val ys=Q at *;refine .region (.mv rfl rfl (.p rfl (yM U159 (tm rfl)) (.mv rfl rfl (.p rfl (yM U159 (tm rfl)) (.p rfl (yZ (tm rfl) (tm rfl) aA) (.s rfl (qK ((zK P).length+(zK Q).length) U159 typeInfo210 Z210 V210 (tm rfl) (tm rfl) aA aA aC aA) ?_))))));rintro _ _ ⟨b24,rfl,hb24,hH⟩;obtain rfl:=hH.symm;refine .as rfl rfl (.ng (.seq (.sr (.mv rfl rfl (.p rfl (yM U159 (tm rfl)) (.p rfl (zD zG) (.ng (.block ?_))))))));refine AWP.loopW (bnW P Q b24 H) ((zK P).length) ⟨0,List.replicate _ 0,Nat.zero_le _,by simp,Limbs.rep aA,λj _=>bhQ _ _,by rw[aoI,eO,val,cQ],rfl,rfl,rfl⟩ (zJ rfl (zJ rfl (zJ rfl (zJ rfl (zJ rfl yF))))) (hRa _) ?_;rintro _ _ _ ⟨i,zs0,hi,hz0,hzl0,h0,hv0,rfl,rfl,hk⟩;refine .sr (.p rfl (aaQ (tm rfl) (tm rfl)) (.ng (.seq ?_)));refine AWP.cond (tm rfl) (λhc28=>?_) (λhc28=>?_)
 ·try simp only[aV]at hc28
  refine .skip ?_;refine Next.go ?_;refine .seq (.block (.sr (.mv rfl rfl (.as rfl rfl (.nr (.p rfl (zC (yQ 0)) (.ng (.seq ?_))))))));refine .sr (.mv rfl rfl (.p rfl (yM U159 (tm rfl)) (.p rfl (zD zG) (.ng (.block ?_)))));refine AWP.loopW (bjQ P Q b24 i zs0 H) ((zK Q).length) ⟨0,0,zs0,Nat.zero_le _,hz0,hzl0,by omega,h0,by rw[eO,val,Nat.mul_zero,Nat.mul_zero],rfl,rfl,rfl⟩ (zJ rfl (zJ rfl (zJ rfl (zJ rfl (zJ rfl (zJ rfl (zJ rfl (zJ rfl (zJ rfl yF))))))))) (hRa _) ?_;rintro _ _ _ ⟨j,c,zs,hj,hz,hzl,hc,hzr,hv,rfl,rfl,hk2⟩;refine .sr (.p rfl (aaQ (tm rfl) (tm rfl)) (.ng (.seq ?_)));refine AWP.cond (tm rfl) (λhc33=>?_) (λhc33=>?_)
  ·try simp only[aV]at hc33
   have hPi:=Limbs.getD (zS P) i;have hQj:=Limbs.getD (zS Q) j;have hZ:=Limbs.getD hzl (i+j);have hmf:=bhD hPi hQj hZ hc;refine .skip ?_;refine Next.go ?_;refine .seq (.block (.sr (.mv rfl rfl (.as rfl rfl (.ng (.seq ?_))))));refine AWP.draw [(0,true),(1,true),(2,true),(3,true),(4,true),(5,true),(6,true),(7,true),(8,true),(9,true),(10,true),(11,true),(12,true),(13,true),(14,true),(15,true),(19,true),(16,false),(17,true),(18,true),(20,true),(21,true)] rfl aE ?_;refine .p rfl rfl (zD (tm rfl)) (.p rfl rfl (zD (tm rfl)) (.p rfl rfl (yW (i) U159 Z210 (tm rfl) (tm rfl) aA aA) (.p rfl rfl (zV G210 (tm rfl)) (.p rfl rfl (qQ U210 U25 (tm rfl) (wrapN64 aA)) (.p rfl rfl (zD (tm rfl)) (.p rfl rfl (zD (tm rfl)) (.p rfl rfl (yW (j) U159 Z210 (tm rfl) (tm rfl) aA aA) (.p rfl rfl (zV G210 (tm rfl)) ?_))))))));refine .p rfl rfl (qQ U210 U25 (tm rfl) (wrapN64 aA)) (.p rfl rfl (auA (tm rfl) (tm rfl) aA) (.p rfl rfl (zD (tm rfl)) (.p rfl rfl (zD (tm rfl)) (.p rfl rfl (zD (tm rfl)) (.p rfl rfl (yZ (tm rfl) (tm rfl) aA) (.p rfl rfl (qM (i+j) U159 Z210 (tm rfl) (tm rfl) aA aA) (.p rfl rfl (zD (tm rfl)) (.s rfl rfl (acE G210 (tm rfl) (oS _ _ _) aA) ?_))))))));rintro _ _ ⟨rfl,hH⟩;obtain rfl:=hH.symm;refine .p rfl rfl (qQ U210 U25 (tm rfl) (wrapN64 aA)) (.p rfl rfl (abP (tm rfl) (tm rfl) aA) (.p rfl rfl (abP (tm rfl) (tm rfl) aB) (.p rfl rfl (zC (tm rfl)) (.nil ?_))));refine Next.go ?_;refine .region (.mv rfl rfl (.mv rfl rfl (.mv rfl rfl (.p rfl (yZ (tm rfl) (tm rfl) aA) (.mv rfl rfl (.p rfl (abB U25 U210 rfl (tm rfl)) (.mv rfl rfl (.p rfl (adS (tm rfl) (yQ 32) aB) ?_))))))));refine .p rfl (qM (i+j) U159 Z210 (tm rfl) (tm rfl) aA aA) (.e0 (aaE Z210 (tm rfl) (tm rfl) (oS _ _ _) aA) ?_);try first|rw[sS]|rw[sU aB]
   refine .as rfl rfl (.nil ?_);refine Block.go ?_;refine Next.go ?_;refine .region (.p rfl (yZ (tm rfl) zG aA) (.mv rfl rfl (.ng ?_)));refine Round.mk (J:=bjQ P Q b24 i zs0 H) ⟨j+1,_,_,by omega,by simpa using hz,Limbs.set hzl aA,by omega,λq hq=>avT hzr aA q hq,bhC aA hv,rfl,rfl,rfl⟩ (zJ rfl (zJ rfl (zJ rfl (zJ rfl (zJ rfl (zJ rfl (zJ rfl (zJ rfl (zJ rfl yF))))))))) (hRa _) aA
  try simp only[aT,cI]at hc33
  have hj2:j=(zK Q).length:=by omega
  subst hj2;have hcm:c%2^IntKind.u32.bits=c:=bQ hc;refine .exit ?_;refine Next.ex ?_;refine Next.ex ?_;refine Block.hit ?_;refine Next.go ?_;refine .region (.mv rfl rfl (.mv rfl rfl (.mv rfl rfl (.p rfl (yM U159 (tm rfl)) (.p rfl (yZ (tm rfl) (tm rfl) aA) (.mv rfl rfl (.p rfl (abB U25 U210 rfl (tm rfl)) (.p rfl (qM (i+(zK Q).length) U159 Z210 (tm rfl) (tm rfl) aA aA) ?_))))))));refine .e0 (aaE Z210 (tm rfl) (tm rfl) (oS _ _ _) aA) ?_;try first|rw[sS]|rw[sU aB]
  refine .nil ?_;refine Block.go ?_;refine Next.go ?_;refine .region (.p rfl (yZ (tm rfl) zG aA) (.mv rfl rfl (.ng ?_)));rw[hcm];refine Round.mk (J:=bnW P Q b24 H) ⟨i+1,_,by omega,by simpa using hz,Limbs.set hzl hc,λj hj=>avT (n:=i+1+(zK Q).length) (λj hj=>hzr j aA) aA j hj,blP rfl aA (hzr _ (bA _)) hv0 hv,rfl,rfl,rfl⟩ (zJ rfl (zJ rfl (zJ rfl (zJ rfl (zJ rfl yF))))) (hRa _) aA
 try simp only[aT,cI]at hc28
 refine .exit ?_;refine Next.ex ?_;refine Next.ex ?_;refine Block.hit ?_;refine Next.go ?_;refine .seq ?_;have hi2:i=(zK P).length:=by omega
 subst hi2;rw[bS,yG,yG]at hv0;refine AWP.frzU (t:=6) rfl hb24 aA (bA _) (by simp only[zT];omega) ?_;rw[aX aA];have hz5:zs0.length≤1000000:=by omega
 refine .region (.mv rfl rfl (.cl rfl call195 (evs1 rfl) (anZ _ _ aB aB _) (.p rfl (zQ (tm rfl) rfl) (.p rfl (zQ (tm rfl) rfl) (.as rfl rfl (.as rfl rfl (.ng (.ret ?_))))))));refine Ret.go (.cons (.tmp _ _ rfl) (.cons (.tmp _ _ rfl) .nil)) _ (hRa _) ?_;refine⟨?_,rfl⟩;rw[←hv0];rfl
end
end Go.Proofs.YteedncdcbgplfaaGreatDoor
