import Derived.Test.YteedncdcbgplfaaGreatDoorN2
set_option maxHeartbeats 1000000
namespace Go.Proofs.YteedncdcbgplfaaGreatDoor
open Go.Proofs.Tryz
open Go Go.RowKit
variable{Q a b c i j n r v:Nat}{l xs ys zs:List Nat}
section
set_option maxRecDepth 100000
theorem bgR{x:Nat}(hx:x<4294967296)(hc:c≤1):2*x+c<18446744073709551616∧(2*x+c)/4294967296≤1:=by omega
theorem bfB(hi:zs.length=i){d:Nat}(h:val zs+4294967296^i*c=2*val (xs.take i)+d):
  val (zs++[(2*xs.getD i 0+c)%4294967296])+4294967296^(i+1)*((2*xs.getD i 0+c)/4294967296)=2*val (xs.take (i+1))+d:=by
 rw[aaI,hi,qF,bW];simp only[val,dO,cM];have e:=Nat.mod_add_div (2*xs.getD i 0+c) 4294967296;have e2:4294967296^i*((2*xs.getD i 0+c)%4294967296)+4294967296^i*4294967296*((2*xs.getD i 0+c)/4294967296)=2*(4294967296^i*xs.getD i 0)+4294967296^i*c:=by
  rw[bT,←cB,e,cB,Nat.mul_left_comm]
 omega
theorem brR(hx:Limbs xs)(i:Nat):xs.getD (i/32) 0/2^(i%32)%2=val xs/2^i%2:=by
 have key:∀(xs:List Nat)(j:Nat),Limbs xs→xs.getD j 0=val xs/4294967296^j%4294967296:=by
  intro xs;induction xs with
  |nil=>intro j _;simp[val]
  |cons x xs ih=>
   intro j hl;obtain⟨h1,h2⟩:=hl.cons;cases j with
   |zero=>rw[Nat.pow_zero,Nat.div_one,val,dE,bN h1];rfl
   |succ j=>
    rw[cL,ih j h2,bW,bO (4294967296^j),←eT,val,fB _ _ aC,cY h1,cE]
 rw[key xs _ hx];have e:(4294967296:Nat)=2^32:=by decide
 rw[e,←eX];have h32:i%32<32:=bX _ aC;generalize val xs=v;have hi:i=32*(i/32)+i%32:=(dJ i 32).symm;generalize i/32=a at *;generalize i%32=r at *;subst hi;rw[dN,←eT];generalize v/2^(32*a)=w;rw[show(32:Nat)=r+(32-r) by omega,dN,Nat.mod_mul,fB _ _ (cJ aC),cY (bX _ (cJ aC)),cE];rw[show 32-r=(31-r)+1 by omega,bW,bO,Nat.mod_mul_right_mod]
def atX(xs:List Nat)(tl:Tail)(H:Heap):Nat→Env→Heap→Prop:=λk env H1=>∃n:Nat,n≤xs.length∧qH (xs.take n)=qH xs∧env=[(0,.slice 1 (U .u32 xs) tl),(3,.int .i64 (n:Int))]∧H=H1∧k=n
theorem qX(xs:List Nat)(tl:Tail)(hx:Limbs xs)(hl:xs.length≤1000000):Fn 158 [.slice 1 (U .u32 xs) tl] (qE (val xs)):=by
 intro H;refine .of_body func158 rfl ntmps158 results158 rfl ?_;iterate 14 refine AX ?_
 refine .loopW (atX xs tl H) (xs.length) ⟨xs.length,bB _,by rw[bY],rfl,rfl,rfl⟩ sX (hRa _) ?_;rintro _ _ _ ⟨n,hn,hr,rfl,rfl,hk⟩;refine AX ?_;refine .seqTo 15 (.bool (decide (0<(n:Int))&&decide (((xs.getD (n-1) 0:Nat):Int)=0))) [0,3] ?_ ?_
 ·iterate 4 refine AX ?_
  refine zC (t:=8) rfl (λhg8=>?_) (λhg8=>?_)
  ·have hh8:=hg8;try simp only[aW]at hh8
   iterate 3 refine AX ?_
   refine .gp rfl rfl rfl aB (yL (n-1) U135 Z210 (tm rfl) (tm rfl) aA aA) ?_;iterate 4 refine AM ?_
   exact⟨rfl,zO rfl aI sX,rfl⟩
  have hh8:=hg8;try simp only[aT,cF]at hh8
  iterate 8 refine AX ?_
  exact⟨rfl,zO rfl aI sX,rfl⟩
 refine .sub [(15,_),(0,_),(3,_)] sX ?_;refine .cx rfl (λhc15=>?_) (λhc15=>?_)
 ·simp only[bD,aW]at hc15;iterate 10 refine AX ?_
  have hs:=acJ (xs:=xs) (k:=n-1) aA;rw[show n-1+1=n by omega,aK]at hs;refine Round.mk ⟨n-1,by omega,by rw[←hs,hr],rfl,rfl,rfl⟩ (zF rfl (zU rfl (by rw[show((n:Int)-1)=((n-1:Nat):Int) by omega]) zW)) (hRa _) aA
 simp only[cA,aT]at hc15;iterate 7 refine AX ?_
 refine .e rfl (atO U135 Z210 V210) ?_;iterate 2 refine AX ?_
 refine .p rfl (aeC (_) U135 Z210 (tm rfl) (tm rfl) rfl aA) ?_;refine .e rfl (amM U135 U135 Z210 typeInfo210 V210 rfl aC (tm rfl) (tm rfl) (by show(_+_)*4≤_;simp only[acP,aU,aY];omega) (by repeat' (first|exact yD _|exact aaC|exact acS ⟨rfl,rfl⟩ aaC|exact qP (yD _)|exact qO (yD _)|refine aaE ?_ ?_ |exact(λ_ h=>by simp at h))) (by repeat' (first|exact yD _|exact aaC|exact acS ⟨rfl,rfl⟩ aaC|exact qP (yD _)|exact qO (yD _)|refine aaE ?_ ?_ |exact ajQ _ _))) ?_;iterate 5 refine AX ?_
 refine⟨?_,rfl⟩;have hq:n=qH xs:=by
  rcases bE n with h0|h0
  ·subst h0;rw[←hr];rfl
  have hs:=acJ (xs:=xs) (k:=n-1) aA;rw[show n-1+1=n by omega,aJ,hr]at hs;exact hs.symm
 rw[hq,cP,acV hx];rfl
theorem afZ(v:Nat)(hv:v<18446744073709551616):Fn 127 [.int .u64 (v:Int)] (qE v):=by
 intro H;refine .of_body func127 rfl ntmps127 results127 rfl ?_;iterate 8 refine AX ?_
 iterate 5 refine AM ?_
 refine .e rfl (adK U135 Z210 V210 rfl (tm rfl) (.inl rfl) ⟨rfl,rfl⟩ (tm rfl) (.inl rfl) ⟨rfl,rfl⟩) ?_;refine .cl rfl C158 (evs1 rfl) (qX [v%4294967296%2^IntKind.u32.bits,v/2^32%2^IntKind.u32.bits] .full (Limbs.mk (by simp only[IntKind.bits];omega) (Limbs.mk (by simp only[IntKind.bits];omega) Limbs.nil)) aF _) ?_;iterate 5 refine AX ?_
 refine⟨?_,rfl⟩;show qE _=_;congr 1;simp only[val,IntKind.bits];omega
theorem aeS(xs:List Nat)(tl:Tail)(hx:Limbs xs)(_:xs.length≤1000000)(i:Nat)(q:Int)(hq:q=(i:Int))(H:Heap):ACall prog 211 [.slice 1 (U .u32 xs) tl,.int .i64 q] H (λy H'=>y= .int .u64 ((xs.getD i 0:Nat):Int)∧H'=H):=by
 subst hq;have hg:=hx.getD i;refine ACall.of_body func211 rfl ntmps211 results211 rfl ?_;iterate 6 refine AM ?_
 refine AWP.seqTo 12 (.bool (decide ((i:Int)<0)||decide ((xs.length:Int)≤(i:Int)))) [0,1,4] ?_ ?_
 ·iterate 2 refine AX ?_
  refine .p rfl (aaL (tm rfl) zJ) (.mv rfl rfl ?_);refine zC (t:=7) rfl (λhg7=>?_) (λhg7=>?_)
  ·have hh7:=hg7;try simp only[aW]at hh7
   refine .gn rfl rfl rfl aB (.gn rfl rfl rfl aB (.gn rfl rfl rfl aB (.gn rfl rfl rfl aB (.p rfl (yE (tm rfl) aB yA) (.nil ?_)))));exact⟨rfl,zO rfl (by(simp[*];done)) sX,rfl⟩
  have hh7:=hg7;try simp only[aT,cF]at hh7
  iterate 6 refine AX ?_
  exact⟨rfl,zO rfl aD sX,rfl⟩
 refine AWP.sub [(12,_),(0,_),(1,_),(4,_)] sX ?_;refine AWP.cond (tm rfl) (λhc12=>?_) (λhc12=>?_)
 ·try simp only[aL]at hc12
  simp only[dK,aW]at hc12;iterate 7 refine AM ?_
  refine Ret.go (.cons (.tmp _ _ rfl) .nil) _ (hRa _) ?_;refine⟨?_,rfl⟩;rw[aiJ aA];rfl
 try simp only[aL]at hc12
 simp only[cT,aT]at hc12;iterate 6 refine AX ?_
 refine .p rfl (yL (i) U135 Z210 (tm rfl) (tm rfl) aA aA) ?_;iterate 6 refine AX ?_
 refine Ret.go (.cons (.tmp _ _ rfl) .nil) _ (hRa _) ?_;exact⟨rfl,rfl⟩
theorem alV(xs:List Nat)(tl:Tail)(hx:Limbs xs)(hl:xs.length≤1000000)(i:Nat)(hi:i≤1000000000)(q:Int)(hq:q=(i:Int)):Fn 156 [.slice 1 (U .u32 xs) tl,.int .i64 q] (.bool (decide (((val xs/2^i%2:Nat):Int)=1))):=by
 intro H;subst hq;have hg:=hx.getD (i/32);refine .of_body func156 rfl ntmps156 results156 rfl ?_;iterate 10 refine AM ?_
 refine .cl rfl C211 (evs2 rfl rfl) (aeS _ _ aB aB _ _ rfl _) ?_;iterate 3 refine AM ?_
 refine .p rfl (adB (tm rfl) (tm rfl) aA) ?_;iterate 7 refine AM ?_
 refine⟨?_,rfl⟩;rw[←brR hx];rfl
end
section
open Go Go.RowKit
set_option maxRecDepth 100000
theorem rTrimX(c:Nat)(m:Int)(tl:Tail)(hz:Limbs zs)(hm:m=(c:Int))(hc:c<4294967296)(hl:zs.length+1≤1000000)(H:Heap):
  ACall prog 158 [.slice 1 (U .u32 zs++[.int .u32 m]) tl] H (λy H'=>y=qE (val zs+4294967296^zs.length*c)∧H'=H):=by
 subst hm;have:=qX (zs++[c]) tl (hz.append (Limbs.mk hc Limbs.nil)) aG H;rw[←avQ,aaI]at this;simp only[val,dO,cM]at this;exact this
theorem boA{m:Int}(c:Nat)(hm:m=(c:Int)):U .u32 zs++[.int .u32 m]=U .u32 (zs++[c]):=by
 subst hm;rw[←avQ];rfl
theorem arN:(2:Nat)^32=4294967296:=by decide
theorem avD(h:Limbs zs)(hc:c<4294967296):Limbs (zs++[c]):=h.append (Limbs.mk hc Limbs.nil)
def bxR(xs:List Nat)(tl:Tail)(b:Bool)(H:Heap):Nat→Env→Heap→Prop:=λk env H1=>∃(i t:Nat)(zs:List Nat)(c:Nat),i≤xs.length∧zs.length=i∧Limbs zs∧c≤1∧val zs+4294967296^i*c=2*val (xs.take i)+b.toNat∧env=[(0,.slice 1 (U .u32 xs) tl),(5,.slice 1 (U .u32 zs) (.own t)),(6,.int .u64 (c:Int)),(7,.int .i64 (i:Int))]∧H.le H1∧H1.toks t=true∧H.toks t=false∧k=xs.length-i
theorem amT(xs:List Nat)(tl:Tail)(hx:Limbs xs)(hl:xs.length≤900000)(b:Bool)(H:Heap):ACall prog 159 [.slice 1 (U .u32 xs) tl,.bool b] H (λy H'=>y=qE (2*val xs+b.toNat)∧H'=H):=by
 have hle0:=hRa H;refine ACall.of_body func159 rfl ntmps159 results159 rfl ?_;iterate 12 refine AX ?_
 iterate 3 refine AM ?_
 refine AWP.seqToL [(6,.int .u64 ((b.toNat:Nat):Int))] [0,4,5] ?_ ?_
 ·iterate 5 refine AX ?_
  refine AWP.cx rfl (λhc9=>?_) (λhc9=>?_)
  ·iterate 3 refine AM ?_
   exact⟨rfl,(zU rfl (by simp[hc9]) sX),rfl⟩
  refine AX ?_;exact⟨rfl,(zU rfl (by simp[hc9]) sX),rfl⟩
 refine AWP.sub [(6,_),(0,_),(4,_),(5,_)] sX ?_;iterate 7 refine AX ?_
 refine AWP.tag (t:=5) rfl (λu5 hu5=>?_);have hfu5:=Heap.fresh_of hle0 hu5;have hleu5:=Heap.le_in hle0 u5;refine AWP.loopW (bxR xs tl b H) (xs.length) ⟨0,u5,[],b.toNat,Nat.zero_le _,rfl,Limbs.nil,by cases b<;>decide,by simp[val],rfl,hleu5,Heap.toks_live_same _ _,hfu5,by omega⟩ sX (hRa _) ?_;rintro _ _ H1 ⟨i,t,zs,c,hi,hzl,hz,hc,hv,rfl,hle,hlive,hfr,rfl⟩;have hg:=hx.getD i;obtain⟨hp1,hp2⟩:=bgR hg hc;iterate 9 refine AX ?_
 refine AWP.cx rfl (λhc13=>?_) (λhc13=>?_)
 ·iterate 8 refine AX ?_
  refine .p rfl (yL (_) U135 Z210 (tm rfl) (tm rfl) rfl aA) ?_;iterate 2 refine AX ?_
  refine .p rfl (ajF (yT 2) (tm rfl) aA) ?_;iterate 11 refine AM ?_
  refine .e rfl (yP U135 Z210 V210 rfl (tm rfl) (.inl rfl) ⟨rfl,rfl⟩) ?_;refine .s rfl (qW U135 U135 Z210 typeInfo210 V210 rfl aC (tm rfl) (tm rfl) (by exact .own _ aB) (by show(_+_)*4≤_;simp only[acP,aY,aX];omega) (by repeat' (first|exact yD _|exact aaC|exact acS ⟨rfl,rfl⟩ aaC|exact qP (yD _)|exact qO (yD _)|refine aaE ?_ ?_ |exact ajQ _ _)) (by repeat' (first|exact yD _|exact aaC|exact acS ⟨rfl,rfl⟩ aaC|exact qP (yD _)|exact qO (yD _)|refine aaE ?_ ?_))) ?_;rintro _ _ ⟨t29,ht29,rfl,hH⟩;obtain rfl:=hH.symm;have hf29:=Heap.fresh_of hle ht29;have hle29:=Heap.le_in (Heap.le_out (t:=t) hle aB) t29;iterate 12 refine AM ?_
  iterate 4 refine AX ?_
  refine Round.mk (J:=bxR xs tl b H) ⟨i+1,t29,zs++[(2*xs.getD i 0+c)%4294967296],(2*xs.getD i 0+c)/4294967296,by omega,by simp[hzl],avD hz (bX _ aC),hp2,bfB hzl hv,rfl,hle29,Heap.toks_live_same _ _,hf29,rfl⟩ (zF rfl (zU rfl (aaX (boA _ (by simp only[IntKind.bits];rw[bN (bX _ aC)]))) sX)) (hRa _) aA
 iterate 10 refine AX ?_
 refine .e rfl (yP U135 Z210 V210 rfl (tm rfl) (.inl rfl) ⟨rfl,rfl⟩) ?_;refine .s rfl (qW U135 U135 Z210 typeInfo210 V210 rfl aC (tm rfl) (tm rfl) (by exact .own _ aB) (by show(_+_)*4≤_;simp only[acP,aY,aX];omega) (by repeat' (first|exact yD _|exact aaC|exact acS ⟨rfl,rfl⟩ aaC|exact qP (yD _)|exact qO (yD _)|refine aaE ?_ ?_ |exact ajQ _ _)) (by repeat' (first|exact yD _|exact aaC|exact acS ⟨rfl,rfl⟩ aaC|exact qP (yD _)|exact qO (yD _)|refine aaE ?_ ?_))) ?_;rintro _ _ ⟨t36,ht36,rfl,hH⟩;obtain rfl:=hH.symm;have hf36:=Heap.fresh_of hle ht36;have hle36:=Heap.le_in (Heap.le_out (t:=t) hle aB) t36;iterate 6 refine AX ?_
 refine .cl rfl C158 (evs1 rfl) (rTrimX c _ _ hz (by simp only[IntKind.bits];omega) aA aA _) ?_;iterate 4 refine AX ?_
 refine Ret.go (.cons (.tmp _ _ rfl) .nil) _ (hle36) ?_;refine⟨?_,rfl⟩;have hix:i=xs.length:=by omega
 rw[hzl,hv,hix,bY];rfl
end
section
open Go Go.RowKit
set_option maxRecDepth 100000
theorem blK(hi:zs.length=i)(h:val zs+4294967296^i*c=val (xs.take i)+val (ys.take i)):
  val (zs++[(xs.getD i 0+ys.getD i 0+c)%4294967296])+4294967296^(i+1)*((xs.getD i 0+ys.getD i 0+c)/4294967296)=val (xs.take (i+1))+val (ys.take (i+1)):=by
 rw[aaI,hi,qF,qF,bW];simp only[val,dO,cM];have e:=Nat.mod_add_div (xs.getD i 0+ys.getD i 0+c) 4294967296;have e2:4294967296^i*((xs.getD i 0+ys.getD i 0+c)%4294967296)+4294967296^i*4294967296*((xs.getD i 0+ys.getD i 0+c)/4294967296)=4294967296^i*xs.getD i 0+4294967296^i*ys.getD i 0+4294967296^i*c:=by
  rw[bT,←cB,e,cB,cB]
 omega
theorem bgF{x y:Nat}(hx:x<4294967296)(hy:y<4294967296)(hc:c≤1):(x+y+c)/4294967296≤1:=by omega
theorem bmP{m d:Nat}(hi:zs.length=i)(h:val zs+val (ys.take i)=val (xs.take i)+4294967296^i*c)(hm:m+(ys.getD i 0+c)=xs.getD i 0+4294967296*d):
  val (zs++[m])+val (ys.take (i+1))=val (xs.take (i+1))+4294967296^(i+1)*d:=by
 rw[aaI,hi,qF,qF,bW];simp only[val,dO,cM];have e2:4294967296^i*m+4294967296^i*ys.getD i 0+4294967296^i*c=4294967296^i*xs.getD i 0+4294967296^i*4294967296*d:=by
  rw[bT,←cB,←cB,←cB];congr 1;omega
 omega
theorem bqT(_hn:xs.length=n)(hzl:zs.length=n)(hz:Limbs zs)(hx:Limbs xs)(hc:c≤1)(h:val zs+val (ys.take n)=val xs+4294967296^n*c)(hle:val ys≤val xs):val zs=val xs-val ys:=by
 have h1:=ahB hz;have h2:=ahB hx;rw[hzl]at h1;rw[_hn]at h2;have h3:val (ys.take n)=val ys:=by
  rcases bV n ys.length with hl|hl
  ·have h4:val ys=val (ys.take n)+4294967296^n*val (ys.drop n):=by
    have:=aaI (ys.take n) (ys.drop n);rw[cO,aU,cQ aA]at this;exact this
   rcases bE (val (ys.drop n))with h5|h5
   ·rw[h5]at h4;omega
   have h6:4294967296^n*1≤4294967296^n*val (ys.drop n):=dV _ h5;omega
  rw[aZ hl]
 rcases bE c with h5|h5
 ·rw[h5]at h;omega
 have:c=1:=by omega
 rw[this]at h;omega
def bkF(xs ys:List Nat)(tl tl2:Tail)(H:Heap):Nat→Env→Heap→Prop:=λk env H1=>∃(i t:Nat)(zs:List Nat)(c:Nat),zs.length=i∧i≤100000∧Limbs zs∧c≤1∧val zs+4294967296^i*c=val (xs.take i)+val (ys.take i)∧env=[(0,.slice 1 (U .u32 xs) tl),(1,.slice 1 (U .u32 ys) tl2),(5,.slice 1 (U .u32 zs) (.own t)),(6,.int .u64 (c:Int)),(7,.int .i64 (i:Int))]∧H.le H1∧H1.toks t=true∧H.toks t=false∧k=xs.length+ys.length-i
theorem ajC(xs:List Nat)(tl:Tail)(hx:Limbs xs)(hl:xs.length≤100000)(ys:List Nat)(tl2:Tail)(hy:Limbs ys)(hm:ys.length≤100000)(H:Heap):ACall prog 128 [.slice 1 (U .u32 xs) tl,.slice 1 (U .u32 ys) tl2] H (λy H'=>y=qE (val xs+val ys)∧H'=H):=by
 have hle0:=hRa H;refine ACall.of_body func128 rfl ntmps128 results128 rfl ?_;iterate 12 refine AX ?_
 iterate 6 refine AM ?_
 iterate 4 refine AX ?_
 refine AWP.tag (t:=5) rfl (λu5 hu5=>?_);have hfu5:=Heap.fresh_of hle0 hu5;have hleu5:=Heap.le_in hle0 u5;refine AWP.loopW (bkF xs ys tl tl2 H) (xs.length+ys.length) ⟨0,u5,[],0,rfl,Nat.zero_le _,Limbs.nil,by decide,by simp[val],rfl,hleu5,Heap.toks_live_same _ _,hfu5,by omega⟩ sX (hRa _) ?_;rintro _ _ H1 ⟨i,t,zs,c,hzl,hi,hz,hc,hv,rfl,hle,hlive,hfr,rfl⟩;refine AX ?_;refine AWP.seqTo 18 (.bool (decide ((i:Int)<(xs.length:Int))||decide ((i:Int)<(ys.length:Int)))) [0,1,5,6,7] ?_ ?_
 ·iterate 6 refine AX ?_
  refine zC (t:=13) rfl (λhg13=>?_) (λhg13=>?_)
  ·have hh13:=hg13;try simp only[aW]at hh13
   iterate 6 refine AX ?_
   exact⟨rfl,zO rfl (by(rw[hg13];rfl)) sX,rfl⟩
  have hh13:=hg13;try simp only[aT,cF]at hh13
  iterate 6 refine AX ?_
  exact⟨rfl,zO rfl (by(rw[hg13];rfl)) sX,rfl⟩
 refine AWP.sub [(18,_),(0,_),(1,_),(5,_),(6,_),(7,_)] sX ?_;refine AWP.cx rfl (λhc18=>?_) (λhc18=>?_)
 ·simp only[dK,aW]at hc18;have hgx:=hx.getD i;have hgy:=hy.getD i;have hcc:=bgF hgx hgy hc;iterate 8 refine AX ?_
  refine .cl rfl C211 (evs2 rfl rfl) (aeS _ _ aB aA _ _ rfl _) ?_;iterate 2 refine AX ?_
  refine .cl rfl C211 (evs2 rfl rfl) (aeS _ _ aB aA _ _ rfl _) ?_;iterate 12 refine AM ?_
  refine .e rfl (yP U135 Z210 V210 rfl (tm rfl) (.inl rfl) ⟨rfl,rfl⟩) ?_;refine .s rfl (qW U135 U135 Z210 typeInfo210 V210 rfl aC (tm rfl) (tm rfl) (by exact .own _ aB) (by show(_+_)*4≤_;simp only[acP,aY,aX];omega) (by repeat' (first|exact yD _|exact aaC|exact acS ⟨rfl,rfl⟩ aaC|exact qP (yD _)|exact qO (yD _)|refine aaE ?_ ?_ |exact ajQ _ _)) (by repeat' (first|exact yD _|exact aaC|exact acS ⟨rfl,rfl⟩ aaC|exact qP (yD _)|exact qO (yD _)|refine aaE ?_ ?_))) ?_;rintro _ _ ⟨t35,ht35,rfl,hH⟩;obtain rfl:=hH.symm;have hf35:=Heap.fresh_of hle ht35;have hle35:=Heap.le_in (Heap.le_out (t:=t) hle aB) t35;iterate 5 refine AX ?_
  refine .p rfl (adB (tm rfl) (yT 32) aA) ?_;iterate 10 refine AX ?_
  refine Round.mk (J:=bkF xs ys tl tl2 H) ⟨i+1,t35,zs++[(xs.getD i 0+ys.getD i 0+c)%4294967296],(xs.getD i 0+ys.getD i 0+c)/4294967296,by simp[hzl],by omega,avD hz (bX _ aC),hcc,blK hzl hv,rfl,hle35,Heap.toks_live_same _ _,hf35,rfl⟩ (zF rfl (zF rfl (zU rfl (aaX (boA _ (by simp only[IntKind.bits];rw[bN (bX _ aC)]))) sX))) (hRa _) aA
 simp only[cT,aT]at hc18;iterate 10 refine AX ?_
 refine .e rfl (yP U135 Z210 V210 rfl (tm rfl) (.inl rfl) ⟨rfl,rfl⟩) ?_;refine .s rfl (qW U135 U135 Z210 typeInfo210 V210 rfl aC (tm rfl) (tm rfl) (by exact .own _ aB) (by show(_+_)*4≤_;simp only[acP,aY,aX];omega) (by repeat' (first|exact yD _|exact aaC|exact acS ⟨rfl,rfl⟩ aaC|exact qP (yD _)|exact qO (yD _)|refine aaE ?_ ?_ |exact ajQ _ _)) (by repeat' (first|exact yD _|exact aaC|exact acS ⟨rfl,rfl⟩ aaC|exact qP (yD _)|exact qO (yD _)|refine aaE ?_ ?_))) ?_;rintro _ _ ⟨t42,ht42,rfl,hH⟩;obtain rfl:=hH.symm;have hf42:=Heap.fresh_of hle ht42;have hle42:=Heap.le_in (Heap.le_out (t:=t) hle aB) t42;iterate 6 refine AX ?_
 refine .cl rfl C158 (evs1 rfl) (rTrimX c _ _ hz (by simp only[IntKind.bits];omega) aA aA _) ?_;iterate 4 refine AX ?_
 refine Ret.go (.cons (.tmp _ _ rfl) .nil) _ (hle42) ?_;refine⟨?_,rfl⟩;rw[aZ aA,aZ aA]at hv;rw[hzl,hv];rfl
def bkP(xs ys:List Nat)(tl tl2:Tail)(H:Heap):Nat→Env→Heap→Prop:=λk env H1=>∃(i t:Nat)(zs:List Nat)(c:Nat),i≤xs.length∧zs.length=i∧Limbs zs∧c≤1∧val zs+val (ys.take i)=val (xs.take i)+4294967296^i*c∧env=[(0,.slice 1 (U .u32 xs) tl),(1,.slice 1 (U .u32 ys) tl2),(5,.slice 1 (U .u32 zs) (.own t)),(6,.int .u64 (c:Int)),(7,.int .i64 (i:Int))]∧H.le H1∧H1.toks t=true∧H.toks t=false∧k=xs.length-i
theorem apL(xs:List Nat)(tl:Tail)(hx:Limbs xs)(hl:xs.length≤100000)(ys:List Nat)(tl2:Tail)(hy:Limbs ys)(hm:ys.length≤100000)(hle:val ys≤val xs)(H:Heap):ACall prog 161 [.slice 1 (U .u32 xs) tl,.slice 1 (U .u32 ys) tl2] H (λy H'=>y=qE (val xs-val ys)∧H'=H):=by
 have hle0:=hRa H;refine ACall.of_body func161 rfl ntmps161 results161 rfl ?_;iterate 12 refine AX ?_
 iterate 6 refine AM ?_
 iterate 4 refine AX ?_
 refine AWP.tag (t:=5) rfl (λu5 hu5=>?_);have hfu5:=Heap.fresh_of hle0 hu5;have hleu5:=Heap.le_in hle0 u5;refine AWP.loopW (bkP xs ys tl tl2 H) (xs.length) ⟨0,u5,[],0,Nat.zero_le _,rfl,Limbs.nil,by decide,by simp[val],rfl,hleu5,Heap.toks_live_same _ _,hfu5,by omega⟩ sX (hRa _) ?_;rintro _ _ H1 ⟨i,t,zs,c,hi,hzl,hz,hc,hv,rfl,hle1,hlive,hfr,rfl⟩;iterate 9 refine AX ?_
 refine AWP.cx rfl (λhc13=>?_) (λhc13=>?_)
 ·have hgx:=hx.getD i;have hgy:=hy.getD i;iterate 8 refine AX ?_
  refine .cl rfl C211 (evs2 rfl rfl) (aeS _ _ aB aA _ _ rfl _) ?_;iterate 7 refine AX ?_
  refine .cl rfl C211 (evs2 rfl rfl) (aeS _ _ aB aA _ _ rfl _) ?_;iterate 10 refine AM ?_
  refine AWP.seqToL [(8,.int .u64 ((if xs.getD i 0<(ys.getD i 0+c)then xs.getD i 0+4294967296 else xs.getD i 0:Nat):Int)),(6,.int .u64 (((if xs.getD i 0<(ys.getD i 0+c)then 1 else 0):Nat):Int))] [0,1,5,7,9] ?_ ?_
  ·iterate 7 refine AX ?_
   refine AWP.cx rfl (λhc26=>?_) (λhc26=>?_)
   ·iterate 3 refine AX ?_
    refine .p rfl (aaS (tm rfl) (yT 4294967296) aA) ?_;iterate 6 refine AM ?_
    exact⟨rfl,(zU rfl (by rw[aK]) (zU rfl (by rw[aK]) sX)),rfl⟩
   refine AX ?_;exact⟨rfl,(zU rfl (by(rw[aJ];done)) (zU rfl (by(rw[aJ];done)) sX)),rfl⟩
  refine AWP.sub [(8,_),(6,_),(0,_),(1,_),(5,_),(7,_),(9,_)] sX ?_;generalize hw:(if xs.getD i 0<(ys.getD i 0+c)then xs.getD i 0+4294967296 else xs.getD i 0)=w at *;generalize hd:(if xs.getD i 0<(ys.getD i 0+c)then 1 else 0)=d at *;have hwd:(ys.getD i 0+c)≤w∧w-(ys.getD i 0+c)<4294967296∧w<18446744073709551616∧d≤1∧w-(ys.getD i 0+c)+(ys.getD i 0+c)=xs.getD i 0+4294967296*d:=by(split at hw<;>rename_i hq<;>(first|rw[aN hq]at hd|rw[aM hq]at hd)<;>omega)
  obtain⟨hw1,hw2,hw3,hw4,hw5⟩:=hwd;iterate 4 refine AX ?_
  refine .p rfl (baR (tm rfl) (tm rfl) aB aB) ?_;refine AX ?_;refine .e rfl (yP U135 Z210 V210 rfl (tm rfl) (.inl rfl) ⟨rfl,rfl⟩) ?_;refine .s rfl (qW U135 U135 Z210 typeInfo210 V210 rfl aC (tm rfl) (tm rfl) (by exact .own _ aB) (by show(_+_)*4≤_;simp only[acP,aY,aX];omega) (by repeat' (first|exact yD _|exact aaC|exact acS ⟨rfl,rfl⟩ aaC|exact qP (yD _)|exact qO (yD _)|refine aaE ?_ ?_ |exact ajQ _ _)) (by repeat' (first|exact yD _|exact aaC|exact acS ⟨rfl,rfl⟩ aaC|exact qP (yD _)|exact qO (yD _)|refine aaE ?_ ?_))) ?_;rintro _ _ ⟨t35,ht35,rfl,hH⟩;obtain rfl:=hH.symm;have hf35:=Heap.fresh_of hle1 ht35;have hle35:=Heap.le_in (Heap.le_out (t:=t) hle1 aB) t35;iterate 10 refine AX ?_
  refine Round.mk (J:=bkP xs ys tl tl2 H) ⟨i+1,t35,zs++[w-(ys.getD i 0+c)],d,by omega,by simp[hzl],avD hz hw2,hw4,bmP hzl hv hw5,rfl,hle35,Heap.toks_live_same _ _,hf35,rfl⟩ (zF rfl (zF rfl (zU rfl (aaX (boA _ (by simp only[IntKind.bits];omega))) sX))) (hRa _) aA
 iterate 8 refine AX ?_
 refine .cl rfl C158 (evs1 rfl) (qX _ _ hz aA _) ?_;iterate 4 refine AX ?_
 refine Ret.go (.cons (.tmp _ _ rfl) .nil) _ (hle1) ?_;refine⟨?_,rfl⟩;have hix:i=xs.length:=by omega
 rw[hix,bY]at hv;rw[bqT rfl (hzl.trans hix) hz hx hc hv hle];rfl
def btM(xs ys:List Nat)(H:Heap):Nat→Env→Heap→Prop:=λk env H1=>∃i:Nat,i≤xs.length∧xs.drop (xs.length-i)=ys.drop (xs.length-i)∧env=[(5,.slice 1 (U .u32 xs) .shared),(6,.slice 1 (U .u32 ys) .shared),(7,.int .i64 ((xs.length:Int)-1-i))]∧H=H1∧k=xs.length-i
theorem asF(xs:List Nat)(tl:Tail)(hx:Limbs xs)(hl:xs.length≤100000)(ys:List Nat)(tl2:Tail)(hy:Limbs ys)(hm:ys.length≤100000):Fn 160 [.slice 1 (U .u32 xs) tl,.slice 1 (U .u32 ys) tl2] (.int .i64 (aqW (val xs) (val ys))):=by
 intro H;have hr:=abD xs;have hrl:=abL hx;have hs:=abD ys;have hsl:=abL hy;refine .of_body func160 rfl ntmps160 results160 rfl ?_;iterate 8 refine AX ?_
 refine .cl rfl C158 (evs1 rfl) (qX _ _ aB aA _) ?_;iterate 6 refine AX ?_
 refine .cl rfl C158 (evs1 rfl) (qX _ _ aB aA _) ?_;iterate 13 refine AX ?_
 refine .cx rfl (λhc16=>?_) (λhc16=>?_)
 ·iterate 10 refine AX ?_
  refine .cx rfl (λhc21=>?_) (λhc21=>?_)
  ·iterate 9 refine AX ?_
   refine⟨?_,rfl⟩;rw[aqW,aN (afM aA)];rfl
  iterate 10 refine AX ?_
  refine⟨?_,rfl⟩;have:=afM (a:=val ys) (b:=val xs) aA;rw[aqW,aJ,aN this];rfl
 have hLx:=zL (val xs);have hLy:=zL (val ys);have hvx:=zR (val xs);have hvy:=zR (val ys);have hlen:(zK (val xs)).length=(zK (val ys)).length:=by omega
 iterate 12 refine AX ?_
 refine .loopW (btM (zK (val xs)) (zK (val ys)) H) ((zK (val xs)).length) ⟨0,Nat.zero_le _,by rw[Nat.sub_zero,dL,hlen,dL],rfl,rfl,rfl⟩ (zF rfl (zF rfl (zU rfl aF zW))) (hRa _) ?_;rintro _ _ _ ⟨i,hi,hd,rfl,rfl,rfl⟩;iterate 7 refine AX ?_
 refine .cx rfl (λhc26=>?_) (λhc26=>?_)
 ·have hds:(zK (val xs)).drop ((zK (val xs)).length-1-i+1)=(zK (val ys)).drop ((zK (val xs)).length-1-i+1):=by rw[show(zK (val xs)).length-1-i+1=(zK (val xs)).length-i by omega];exact hd
  iterate 6 refine AX ?_
  refine .draw [(0,true),(1,true),(2,true),(3,true),(4,true),(5,true),(6,true),(7,true),(8,true)] rfl aE ?_;iterate 2 refine AX ?_
  refine .p rfl rfl (yL ((zK (val xs)).length-1-i) U135 Z210 (tm rfl) (tm rfl) aA aA) ?_;iterate 3 refine AX ?_
  refine .p rfl rfl (yL ((zK (val xs)).length-1-i) U135 Z210 (tm rfl) (tm rfl) aA aA) ?_;iterate 4 refine AX ?_
  refine .cx rfl (λhc37=>?_) (λhc37=>?_)
  ·iterate 13 refine AX ?_
   refine⟨?_,rfl⟩;have:=agI hLx hLy hlen (k:=(zK (val xs)).length-1-i) aA hds aA;rw[hvx,hvy]at this;rw[aqW,aK];rfl
  iterate 3 refine AX ?_
  refine .draw [(0,true),(1,true),(2,true),(3,true),(4,true),(5,true),(6,true),(7,true),(8,true)] rfl aE ?_;iterate 2 refine AX ?_
  refine .p rfl rfl (yL ((zK (val xs)).length-1-i) U135 Z210 (tm rfl) (tm rfl) aA aA) ?_;iterate 3 refine AX ?_
  refine .p rfl rfl (yL ((zK (val xs)).length-1-i) U135 Z210 (tm rfl) (tm rfl) aA aA) ?_;iterate 4 refine AX ?_
  refine .cx rfl (λhc46=>?_) (λhc46=>?_)
  ·iterate 12 refine AX ?_
   refine⟨?_,rfl⟩;have:=agI hLy hLx hlen.symm (k:=(zK (val xs)).length-1-i) aA hds.symm aA;rw[hvx,hvy]at this;rw[aqW,aJ,aK];rfl
  iterate 9 refine AX ?_
  refine Round.mk ⟨i+1,by omega,by rw[show(zK (val xs)).length-(i+1)=(zK (val xs)).length-1-i by omega];exact ayJ hlen aA hds aA,rfl,rfl,rfl⟩ (zF rfl (zF rfl (zU rfl (by congr 1;omega) zW))) (hRa _) aA
 iterate 12 refine AX ?_
 refine⟨?_,rfl⟩;have h0:(zK (val xs)).length-i=0:=by omega
 have hxy:zK (val xs)=zK (val ys):=by rw[h0]at hd;simpa using hd
 rw[axZ hxy,aqW,aM (Nat.lt_irrefl _),aM (Nat.lt_irrefl _)];rfl
end
section
open Go Go.RowKit
set_option maxRecDepth 100000
def bsU(xs ys:List Nat)(tl tl2:Tail)(b:Nat)(H:Heap):Nat→Env→Heap→Prop:=λk env H1=>∃(i:Nat)(zs:List Nat),i≤xs.length∧zs.length=(xs.length+ys.length+1)∧Limbs zs∧(∀j,i+ys.length≤j→zs.getD j 0=0)∧val zs=val (xs.take i)*val ys∧env=[(0,.slice 1 (U .u32 xs) tl),(1,.slice 1 (U .u32 ys) tl2),(5,.mslice (some ⟨b,0,none⟩) (xs.length+ys.length+1) (xs.length+ys.length+1)),(6,.int .i64 (i:Int))]∧H1=H.set b (.box 210 (U .u32 zs))∧k=xs.length-i
def bkB(xs ys:List Nat)(tl tl2:Tail)(b i:Nat)(o0:List Nat)(H:Heap):Nat→Env→Heap→Prop:=λk env H1=>∃(j c:Nat)(zs:List Nat),j≤ys.length∧zs.length=(xs.length+ys.length+1)∧Limbs zs∧c<4294967296∧(∀j,i+ys.length≤j→zs.getD j 0=0)∧val zs+4294967296^(i+j)*c=val o0+4294967296^i*xs.getD i 0*val (ys.take j)∧env=[(0,.slice 1 (U .u32 xs) tl),(1,.slice 1 (U .u32 ys) tl2),(5,.mslice (some ⟨b,0,none⟩) (xs.length+ys.length+1) (xs.length+ys.length+1)),(6,.int .i64 (i:Int)),(7,.int .u64 (c:Int)),(8,.int .i64 (j:Int))]∧H1=H.set b (.box 210 (U .u32 zs))∧k=ys.length-j
theorem adR(xs:List Nat)(tl:Tail)(hx:Limbs xs)(hl:xs.length≤100000)(ys:List Nat)(tl2:Tail)(hy:Limbs ys)(hm:ys.length≤100000):Fn 77 [.slice 1 (U .u32 xs) tl,.slice 1 (U .u32 ys) tl2] (qE (val xs*val ys)):=by
 intro H;refine .of_body func77 rfl ntmps77 results77 rfl ?_;iterate 13 refine AX ?_
 refine .s rfl (qJ (xs.length+ys.length+1) U135 typeInfo210 Z210 V210 (tm rfl) (tm rfl) aA aA aC aA) ?_;rintro _ _ ⟨b16,rfl,hb16,hH⟩;obtain rfl:=hH.symm;iterate 10 refine AX ?_
 refine .loopW (bsU xs ys tl tl2 b16 H) (xs.length) ⟨0,List.replicate _ 0,Nat.zero_le _,by simp,Limbs.rep aA,λj _=>beE _ _,by rw[aiW,dX,val,cU],rfl,rfl,rfl⟩ sX (hRa _) ?_;rintro _ _ _ ⟨i,zs0,hi,hz0,hzl0,h0,hv0,rfl,rfl,hk⟩;iterate 9 refine AX ?_
 refine .cx rfl (λhc20=>?_) (λhc20=>?_)
 ·iterate 12 refine AM ?_
  iterate 4 refine AX ?_
  refine .loopW (bkB xs ys tl tl2 b16 i zs0 H) (ys.length) ⟨0,0,zs0,Nat.zero_le _,hz0,hzl0,by omega,h0,by rw[dX,val,dO,dO],rfl,rfl,rfl⟩ sX (hRa _) ?_;rintro _ _ _ ⟨j,c,zs,hj,hz,hzl,hc,hzr,hv,rfl,rfl,hk2⟩;iterate 9 refine AX ?_
  refine .cx rfl (λhc26=>?_) (λhc26=>?_)
  ·have hPi:=Limbs.getD hx i;have hQj:=Limbs.getD hy j;have hZ:=Limbs.getD hzl (i+j);have hmf:=bdW hPi hQj hZ hc;iterate 5 refine AX ?_
   refine .draw [(0,true),(1,true),(2,true),(3,true),(4,true),(5,true),(6,true),(7,true),(8,true),(9,true),(10,true),(11,true),(12,true),(13,true),(14,true),(15,true),(19,true),(16,false),(17,true),(18,true),(20,true),(21,true)] rfl aE ?_;iterate 2 refine AX ?_
   refine .p rfl rfl (yL (i) U135 Z210 (tm rfl) (tm rfl) aA aA) ?_;iterate 4 refine AX ?_
   refine .p rfl rfl (yL (j) U135 Z210 (tm rfl) (tm rfl) aA aA) ?_;iterate 2 refine AX ?_
   refine .p rfl rfl (ajF (tm rfl) (tm rfl) aA) ?_;iterate 4 refine AX ?_
   refine .p rfl rfl (yR (i+j) U135 Z210 (tm rfl) (tm rfl) aA aA) ?_;refine AX ?_;refine .s rfl rfl (aaP G210 (tm rfl) (oS _ _ _) aA) ?_;rintro _ _ ⟨rfl,hH⟩;obtain rfl:=hH.symm;iterate 15 refine AM ?_
   refine .p rfl (yR (i+j) U135 Z210 (tm rfl) (tm rfl) aA aA) (.e0 (qS Z210 (tm rfl) (tm rfl) (oS _ _ _) aA) ?_);try first|rw[sS]|rw[sU aB]
   iterate 11 refine AM ?_
   iterate 4 refine AX ?_
   have hmm:(xs.getD i 0*ys.getD j 0+zs.getD (i+j) 0+c)%4294967296%2^IntKind.u32.bits=(xs.getD i 0*ys.getD j 0+zs.getD (i+j) 0+c)%4294967296:=bN (bX _ aC);rw[hmm];refine Round.mk ⟨j+1,_,_,by omega,by simpa using hz,Limbs.set hzl (bX _ aC),by omega,λq hq=>anT hzr aA q hq,bdV aA hv,rfl,rfl,rfl⟩ sX (hRa _) aA
  have hj2:j=ys.length:=by omega
  subst hj2;have hcm:c%2^IntKind.u32.bits=c:=bN hc;iterate 13 refine AX ?_
  refine .p rfl (yR (i+ys.length) U135 Z210 (tm rfl) (tm rfl) aA aA) (.e0 (qS Z210 (tm rfl) (tm rfl) (oS _ _ _) aA) ?_);try first|rw[sS]|rw[sU aB]
  iterate 9 refine AX ?_
  rw[hcm];refine Round.mk ⟨i+1,_,by omega,by simpa using hz,Limbs.set hzl hc,λj hj=>anT (n:=i+1+ys.length) (λj hj=>hzr j aA) aA j hj,bmF rfl aA (hzr _ (bB _)) hv0 hv,rfl,rfl,rfl⟩ sX (hRa _) aA
 iterate 6 refine AX ?_
 have hi2:i=xs.length:=by omega
 subst hi2;rw[bY]at hv0;refine .frzU (t:=5) rfl hb16 aA (bB _) (by simp only[zN];omega) ?_;rw[aZ aA];have hz5:zs0.length≤1000000:=by omega
 iterate 2 refine AX ?_
 refine .cl rfl C158 (evs1 rfl) (qX _ _ aB aB _) ?_;iterate 5 refine AX ?_
 refine⟨?_,rfl⟩;rw[←hv0];rfl
theorem byF{gl s:Nat}(hs:s<32)(hg:gl<4294967296)(h0:gl%2^(s+1)=0):gl|||2^s=gl+2^s∧gl+2^s<4294967296:=by
 obtain⟨q,rfl⟩:=Nat.dvd_of_mod_eq_zero h0;have hlt:2^s<2^(s+1):=Nat.pow_lt_pow_right aC aA;refine⟨by rw[bO];exact blS hlt,?_⟩;have e:(4294967296:Nat)=2^(s+1)*2^(31-s):=by rw[←dN,show s+1+(31-s)=32 by omega]
 rw[e]at hg ⊢;have h1:=Nat.lt_of_mul_lt_mul_left hg;have h2:2^(s+1)*(q+1)≤2^(s+1)*2^(31-s):=dV _ h1;rw[cB,eR]at h2;omega
theorem bmO(xs:List Nat)(j:Nat)(hl:Limbs xs):xs.getD j 0=val xs/4294967296^j%4294967296:=by
 induction xs generalizing j with
 |nil=>simp[val]
 |cons x xs ih=>
  obtain⟨h1,h2⟩:=hl.cons;cases j with
  |zero=>rw[Nat.pow_zero,Nat.div_one,val,dE,bN h1];rfl
  |succ j=>
   rw[cL,ih j h2,bW,bO (4294967296^j),←eT,val,fB _ _ aC,cY h1,cE]
theorem bqR(hz:Limbs zs)(h:val zs=2^(i+1)*Q):zs.getD (i/32) 0%2^(i%32+1)=0:=by
 rw[bmO zs _ hz,h];have e:(4294967296:Nat)=2^32:=by decide
 rw[e,←eX];have h32:i%32<32:=bX _ aC;have hi:i=32*(i/32)+i%32:=(dJ i 32).symm;generalize i/32=a at *;generalize i%32=r at *;subst hi;rw[eF,dN,bT,Nat.mul_div_cancel_left _ (cJ aC)];rw[Nat.mod_mod_of_dvd _ (Nat.pow_dvd_pow 2 (by omega:r+1≤32))];exact Nat.mul_mod_right _ _
theorem blN(_:Limbs zs)(hl:i/32<zs.length)(h:val zs=2^(i+1)*Q):val (zs.set (i/32) (zs.getD (i/32) 0+2^(i%32)))=2^i*(2*Q+1):=by
 have e:=atN (zs:=zs) (i:=i/32) (v:=zs.getD (i/32) 0+2^(i%32)) hl;have e2:(4294967296:Nat)^(i/32)*2^(i%32)=2^i:=by
  rw[show(4294967296:Nat)=2^32 by decide,←eX,←dN,dJ]
 rw[cB,e2]at e;have e3:2^i*(2*Q+1)=2^(i+1)*Q+2^i:=by rw[cB,bW,eR,bT]
 omega
theorem asK(h:a/2^(j+1)=Q*b+r):a/2^j=2*Q*b+(2*r+a/2^j%2):=by
 have h1:a/2^(j+1)=a/2^j/2:=by rw[bW,eT]
 rw[h1]at h;have h2:=dJ (a/2^j) 2;rw[h,cB,←bT]at h2;omega
theorem axY(hy:Limbs ys)(h:n<2*val ys):(zK n).length≤ys.length+1:=by
 rw[qT,bW];have:=ahB hy;omega
def PartsOK(a b:Nat)(zs:List Nat)(r j:Nat):Prop:=∃Q,a/2^j=Q*b+r∧r<b∧val zs=2^j*Q
theorem PartsOK.lt(h:PartsOK a b zs r j):r<b:=by obtain⟨_,_,h,_⟩:=h;exact h
theorem PartsOK.stay(h:PartsOK a b zs r (j+1))(hb:2*r+a/2^j%2<b):PartsOK a b zs (2*r+a/2^j%2) j:=by
 obtain⟨Q,h1,h2,h3⟩:=h;exact⟨2*Q,asK h1,hb,by rw[h3,bW,bT]⟩
theorem PartsOK.take(h:PartsOK a b zs r (j+1))(hz:Limbs zs)(hl:j/32<zs.length)(hb:b≤2*r+a/2^j%2):PartsOK a b (zs.set (j/32) (zs.getD (j/32) 0+2^(j%32))) (2*r+a/2^j%2-b) j:=by
 obtain⟨Q,h1,h2,h3⟩:=h;refine⟨2*Q+1,?_,?_,blN hz hl h3⟩
 ·have e:=asK h1;rw[cC,cS];omega
 have:=bX (a/2^j) (by decide:0<2);omega
theorem PartsOK.low(h:PartsOK a b zs r (j+1))(hz:Limbs zs):zs.getD (j/32) 0|||2^(j%32)=zs.getD (j/32) 0+2^(j%32)∧zs.getD (j/32) 0+2^(j%32)<4294967296:=by
 obtain⟨Q,_,_,h3⟩:=h;exact byF (bX _ aC) (hz.getD _) (bqR hz h3)
theorem PartsOK.done(h:PartsOK a b zs r 0):val zs=a/b∧r=a%b:=by
 obtain⟨Q,h1,h2,h3⟩:=h;rw[Nat.pow_zero,Nat.div_one]at h1;rw[Nat.pow_zero,cS]at h3;rw[h3,h1];exact⟨by rw[Nat.add_comm,Nat.add_mul_div_right _ _ aA,cY h2,cE],by rw[Nat.add_comm,Nat.add_mul_mod_self_right,bN h2]⟩
theorem PartsOK.begin(hb:0<b)(h:a<2^n)(k:Nat):PartsOK a b (List.replicate k 0) 0 n:=⟨0,by rw[cY h];simp,hb,by rw[aiW,dO]⟩
theorem arM(h:Limbs xs):val xs<2^(32*xs.length):=by
 have:=ahB h
 rwa[show(4294967296:Nat)=2^32 by decide,←eX]at this
theorem bbH(hy:Limbs ys)(h:r<val ys):(zK r).length≤ys.length:=by
 rw[qT];exact Nat.lt_trans h (ahB hy)
theorem atT{s:Nat}(h:s<32):1*2^s<4294967296:=by
 rw[cS];exact Nat.pow_lt_pow_right aC h
theorem bxB:(decide (((v%2:Nat):Int)=1)).toNat=v%2:=by
 by_cases h:v%2=1
 ·rw[h];rfl
 rw[show v%2=0 by omega];rfl
theorem bnT:0≤aqW a b↔b≤a:=by unfold aqW;split<;>(try split)<;>omega
def bcY(xs ys:List Nat)(tl tl2:Tail)(b:Nat)(H:Heap):Nat→Env→Heap→Prop:=λk env H1=>∃(j r:Nat)(zs:List Nat),j≤32*xs.length∧zs.length=xs.length∧Limbs zs∧PartsOK (val xs) (val ys) zs r j∧env=[(0,.slice 1 (U .u32 xs) tl),(1,.slice 1 (U .u32 ys) tl2),(6,.mslice (some ⟨b,0,none⟩) xs.length xs.length),(7,qE r),(8,.int .i64 ((j:Int)-1))]∧H1=H.set b (.box 210 (U .u32 zs))∧k=j
theorem amW(xs:List Nat)(tl:Tail)(hx:Limbs xs)(hl:xs.length≤100000)(ys:List Nat)(tl2:Tail)(hy:Limbs ys)(hm:ys.length≤50000)(hb:0<val ys):Fn 80 [.slice 1 (U .u32 xs) tl,.slice 1 (U .u32 ys) tl2] (.tuple [qE (val xs/val ys),qE (val xs%val ys)]):=by
 intro H;refine .of_body func80 rfl ntmps80 results80 rfl ?_;iterate 10 refine AM ?_
 refine .s rfl (qJ (xs.length) U135 typeInfo210 Z210 V210 (tm rfl) (tm rfl) aA aA aC aA) ?_;rintro _ _ ⟨b11,rfl,hb11,hH⟩;obtain rfl:=hH.symm;iterate 19 refine AM ?_
 refine .loopW (bcY xs ys tl tl2 b11 H) (32*xs.length) ⟨32*xs.length,0,List.replicate xs.length 0,bB _,by simp,Limbs.rep aA,.begin hb (arM hx) _,rfl,rfl,rfl⟩ (zF rfl (zF rfl (zF rfl (zF rfl (zU rfl aD zW))))) (hRa _) ?_;rintro _ _ _ ⟨j,r,zs,hj,hzl,hz,hp,rfl,rfl,hk⟩;have hrl:=bbH hy hp.lt;have hrl2:=axY (n:=(2*r+val xs/2^(j-1)%2)) hy (by have:=hp.lt;have:=bX (val xs/2^(j-1)) (by decide:0<2);omega);iterate 7 refine AM ?_
 refine .cx rfl (λhc17=>?_) (λhc17=>?_)
 ·have hp1:PartsOK (val xs) (val ys) zs r (j-1+1):=by rw[show j-1+1=j by omega];exact hp
  have hlow:=hp1.low hz;have hs1:=atT (bX (j-1) (by decide:0<32));have hgz:=hz.getD ((j-1)/32);rw[show((j:Int)-1)=((j-1:Nat):Int) by omega];iterate 2 refine AX ?_
  refine .meet (λenv H2=>∃(r2:Nat)(zs2:List Nat),zs2.length=xs.length∧Limbs zs2∧PartsOK (val xs) (val ys) zs2 r2 (j-1)∧env=[(0,.slice 1 (U .u32 xs) tl),(1,.slice 1 (U .u32 ys) tl2),(6,.mslice (some ⟨b11,0,none⟩) xs.length xs.length),(7,qE r2),(8,.int .i64 ((j-1:Nat):Int))]∧H2=H.set b11 (.box 210 (U .u32 zs2))) ?_ ?_
  ·iterate 6 refine AX ?_
   refine .cl rfl call156 (evs2 rfl rfl) (alV _ _ hx aA (j-1) aA _ aA _) (.cl rfl call159 (evs2 rfl rfl) (amT (zK r) .shared (zL r) aA _ _) ?_);rw[zR,bxB];iterate 7 refine AX ?_
   refine .cl rfl call160 (evs2 rfl rfl) (asF (zK (2*r+val xs/2^(j-1)%2)) .shared (zL _) aA _ _ hy aA _) ?_;rw[zR];iterate 3 refine AM ?_
   refine .cx rfl (λhc28=>?_) (λhc28=>?_)
   ·have hge:=bnT.1 hc28;iterate 4 refine AX ?_
    refine .cl rfl call161 (evs2 rfl rfl) (apL (zK (2*r+val xs/2^(j-1)%2)) .shared (zL _) aA _ _ hy aA (by rw[zR];exact hge) _) ?_;rw[zR];iterate 10 refine AM ?_
    refine .p rfl (yR ((j-1)/32) U135 Z210 (tm rfl) (tm rfl) aA aA) (.e rfl (aaP G210 (tm rfl) (oS _ _ _) aA) ?_);iterate 3 refine AM ?_
    refine .p rfl (ajD (yT 1) (tm rfl) aA (by exact atT (bX _ aC))) (.p rfl (apQ (tm rfl) (tm rfl) aB aB) (.p rfl (yR ((j-1)/32) U135 Z210 (tm rfl) (tm rfl) aA aA) (.e0 (qS Z210 (tm rfl) (tm rfl) (oS _ _ _) aA) ?_)));try first|rw[sS]|rw[sU aB]
    iterate 3 refine AX ?_
    refine .mk ⟨_,zs.set ((j-1)/32) (zs.getD ((j-1)/32) 0|||(1*2^((j-1)%32))),by simpa using hzl,by rw[cS,hlow.1];exact Limbs.set hz hlow.2,by rw[cS,hlow.1];exact hp1.take hz aA hge,rfl,rfl⟩ sX (hRa _)
   have hlt:(2*r+val xs/2^(j-1)%2)<val ys:=by rcases bV (2*r+val xs/2^(j-1)%2) (val ys)with h|h;exact h;exact absurd (bnT.2 h) aA
   iterate 3 refine AX ?_
   refine .mk ⟨_,zs,hzl,hz,hp1.stay hlt,rfl,rfl⟩ sX (hRa _)
  rintro _ _ ⟨r2,zs2,hzl2,hz2,hp2,rfl,rfl⟩;iterate 6 refine AM ?_
  refine Round.mk ⟨j-1,r2,zs2,by omega,hzl2,hz2,hp2,rfl,rfl,rfl⟩ sX (hRa _) aA
 iterate 6 refine AX ?_
 have hj0:j=0:=by omega
 subst hj0;obtain⟨hq,hrm⟩:=hp.done;refine .frzU (t:=6) rfl hb11 aA (bB _) (by simp only[zN];omega) ?_;rw[aZ aA];iterate 2 refine AX ?_
 refine .cl rfl C158 (evs1 rfl) (qX zs .shared hz aA _) ?_;refine AX ?_;refine .cl rfl C158 (evs1 rfl) (qX (zK r) .shared (zL r) aA _) ?_;rw[zR];iterate 6 refine AX ?_
 refine⟨?_,rfl⟩;rw[←hq,←hrm];rfl
end
section
open Go Go.RowKit
set_option maxRecDepth 100000
def XS(v:Nat)(H H1:Heap)(p:Option Addr)(c:Nat):Prop:=
 (v=0∧H1=H)∨(0<v∧∃b,p=some ⟨b,0,none⟩∧H.objs b=none∧(zK v).length≤c∧c≤maxLen∧H1=H.set b (.box 210 (U .u32 (zK v++List.replicate (c-(zK v).length) 0))))
theorem XS.le{H H1:Heap}{p:Option Addr}(h:XS v H H1 p c):H.le H1:=by
 rcases h with⟨_,rfl⟩|⟨_,b,_,hb,_,_,rfl⟩
 ·exact hRa _
 exact Heap.le_set hb _
theorem XS.live{H H1:Heap}{p:Option Addr}(h:XS v H H1 p c)(u:Nat):XS v (H.live u) (H1.live u) p c:=by
 rcases h with⟨h,rfl⟩|⟨h,b,h1,hb,h2,h3,rfl⟩
 ·exact .inl ⟨h,rfl⟩
 exact .inr ⟨h,b,h1,hb,h2,h3,rfl⟩
theorem bbM{g:G}{sz:Nat}{tl:Tail}{v:Value}(h:RelV g (.slice sz [] tl) v):∃p c,v= .slice p 0 c:=by
 cases h with
 |nilSlice=>exact⟨none,0,rfl⟩
 |voidSlice sz a=>exact⟨_,_,rfl⟩
 |slice sz xs tl b off cap vs hsz hi hr hlen hcap htl=>exact⟨_,cap,rfl⟩
theorem aiG(h:0<n):0<(zK n).length:=by rw[abQ h];simp
theorem brQ(h:∀x,x∈l→x<256):U .u8 l=(l.map UInt8.ofNat).map bv:=by
 unfold U;rw[List.map_map];apply List.map_congr_left;intro x hx;have:=h x hx;simp only[Function.comp,bv,fJ];rw[bN aA]
theorem axJ(xs:List Nat)(tl:Tail)(hx:Limbs xs)(hl:xs.length≤1000000)(hv:0<val xs)(H:Heap):ACall prog 158 [.slice 1 (U .u32 xs) tl] H (λy H'=>∃p c,y= .mslice p (zK (val xs)).length c∧XS (val xs) H H' p c):=by
 refine .of_body func158 rfl ntmps158 results158 rfl ?_;iterate 14 refine AX ?_
 refine .loopW (atX xs tl H) (xs.length) ⟨xs.length,bB _,by rw[bY],rfl,rfl,rfl⟩ sX (hRa _) ?_;rintro _ _ _ ⟨n,hn,hr,rfl,rfl,hk⟩;refine AX ?_;refine .seqTo 15 (.bool (decide (0<(n:Int))&&decide (((xs.getD (n-1) 0:Nat):Int)=0))) [0,3] ?_ ?_
 ·iterate 4 refine AX ?_
  refine zC (t:=8) rfl (λhg8=>?_) (λhg8=>?_)
  ·have hh8:=hg8;try simp only[aW]at hh8
   iterate 3 refine AX ?_
   refine .gp rfl rfl rfl aB (yL (n-1) U135 Z210 (tm rfl) (tm rfl) aA aA) ?_;iterate 4 refine AM ?_
   exact⟨rfl,zO rfl aI sX,rfl⟩
  have hh8:=hg8;try simp only[aT,cF]at hh8
  iterate 8 refine AX ?_
  exact⟨rfl,zO rfl aI sX,rfl⟩
 refine .sub [(15,_),(0,_),(3,_)] sX ?_;refine .cx rfl (λhc15=>?_) (λhc15=>?_)
 ·simp only[bD,aW]at hc15;iterate 10 refine AX ?_
  have hs:=acJ (xs:=xs) (k:=n-1) aA;rw[show n-1+1=n by omega,aK]at hs;refine Round.mk ⟨n-1,by omega,by rw[←hs,hr],rfl,rfl,rfl⟩ (zF rfl (zU rfl (by rw[show((n:Int)-1)=((n-1:Nat):Int) by omega]) zW)) (hRa _) aA
 simp only[cA,aT]at hc15;have hq:n=qH xs:=by
  rcases bE n with h0|h0
  ·subst h0;rw[←hr];rfl
  have hs:=acJ (xs:=xs) (k:=n-1) aA;rw[show n-1+1=n by omega,aJ,hr]at hs;exact hs.symm
 have hxt:=acV hx;rw[←hq]at hxt;have hnz:=aiG hv;iterate 7 refine AX ?_
 refine .e rfl (atO U135 Z210 V210) ?_;iterate 2 refine AX ?_
 refine .p rfl (aeC (_) U135 Z210 (tm rfl) (tm rfl) rfl aA) ?_;refine .s rfl (awJ (ys:=xs.take n) U135 U135 Z210 typeInfo210 V210 aC (tm rfl) (tm rfl) (by show _*4≤_;simp only[aU];omega) (by rw[hxt];exact hnz)) ?_;rintro _ _ ⟨b22,c22,rfl,hb22,hc1,hc2,hH⟩;obtain rfl:=hH.symm;rw[hxt]at hc1;rw[hxt];iterate 5 refine AX ?_
 exact⟨_,c22,rfl,.inr ⟨hv,b22,rfl,hb22,hc1,hc2,rfl⟩⟩
theorem amU(xs:List Nat)(tl:Tail)(hx:Limbs xs)(hl:xs.length≤1000000)(H:Heap):ACall prog 158 [.slice 1 (U .u32 xs) tl] H (λy H'=>∃p c,y= .mslice p (zK (val xs)).length c∧XS (val xs) H H' p c):=by
 rcases bE (val xs)with h|h
 ·have hc:=qX xs tl hx hl H;intro g vs w hr s;refine(hc g vs w hr s).mono ?_;rintro e w' ⟨v,rfl,g',y,H',hle,hv,s',rfl,rfl⟩;rw[h]at hv;obtain⟨p,c,rfl⟩:=bbM hv;refine⟨_,rfl,g',.mslice p 0 c,_,hle,.mslice _ _ _,s',p,c,?_,.inl ⟨h,rfl⟩⟩;rw[h];rfl
 exact axJ xs tl hx hl h H
theorem bnJ(hv:0<v)(h:dec a=(if v=0 then []else dec v)++(l.map UInt8.ofNat).reverse):dec a=(if v/10=0 then []else dec (v/10))++((l++[48+v%10]).map UInt8.ofNat).reverse:=by
 rw[h,aJ,dP,List.reverse_append];by_cases h10:v<10
 ·rw[ahY h10,aK,bN h10];rfl
 rw[akU aA,aJ,bF];rfl
theorem bnZ{m:Int}(c:Nat)(hm:m=(c:Int)):U .u8 zs++[.int .u8 m]=U .u8 (zs++[c]):=by
 subst hm;rw[←avQ];rfl
theorem bzI(h:r<10):r*2^32<18446744073709551616:=by rw[arN];omega
theorem bpD{ws ts:List Nat}(h:ws.length=n):(ws++ts).take n=ws:=by subst h;exact List.take_left
theorem beF{ws ts:List Nat}{k:Nat}(h:k<ws.length):(ws++ts).getD k 0=ws.getD k 0:=by
 rw[aS,aS,dB h]
theorem bqS(H:Heap)(b t u:Nat)(o:AObj):((H.set b o).kill t).live u=((H.kill t).live u).set b o:=rfl
theorem bpZ(h:j<l.length):(l.drop (j+1)).reverse++[l.getD j 0]=(l.drop j).reverse:=by
 rw[cK h,List.reverse_cons,aS,aV h];rfl
def btK(a:Nat)(H:Heap):Nat→Env→Heap→Prop:=λk env H1=>∃(v:Nat)(p:Option Addr)(c t:Nat)(l:List Nat)(Hb:Heap),v<BIG∧(∀x,x∈l→x<256)∧dec a=(if v=0 then []else dec v)++(l.map UInt8.ofNat).reverse∧XS v Hb H1 p c∧H.le Hb∧Hb.toks t=true∧H.toks t=false∧env=[(3,.mslice p (zK v).length c),(4,.slice 1 (U .u8 l) (.own t))]∧k=v
def bkU(v b c t:Nat)(l:List Nat)(ts:List Nat)(Hb:Heap):Nat→Env→Heap→Prop:=λk env H1=>∃(j r:Nat)(ws:List Nat),j≤(zK v).length∧ws.length=(zK v).length∧Limbs ws∧r<10∧(∀q,q<j→ws.getD q 0=(zK v).getD q 0)∧val (ws.drop j)*10+r=val ((zK v).drop j)∧env=[(3,.mslice (some ⟨b,0,none⟩) (zK v).length c),(4,.slice 1 (U .u8 l) (.own t)),(5,.int .u64 (r:Int)),(6,.int .i64 ((j:Int)-1))]∧H1=Hb.set b (.box 210 (U .u32 (ws++ts)))∧k=j
def btB(l:List Nat)(tl:Tail)(H:Heap):Nat→Env→Heap→Prop:=λk env H1=>∃(j t:Nat),j≤l.length∧env=[(4,.slice 1 (U .u8 l) tl),(8,.slice 1 (U .u8 (l.drop j).reverse) (.own t)),(9,.int .i64 ((j:Int)-1))]∧H.le H1∧H1.toks t=true∧H.toks t=false∧k=j
theorem aeB(xs:List Nat)(tl:Tail)(hx:Limbs xs)(hl:xs.length≤1000000)(hB:val xs<BIG)(H:Heap):ACall prog 126 [.slice 1 (U .u32 xs) tl] H (λy H'=>y= .str (dec (val xs))∧H'=H):=by
 have hle0:=hRa H;have hdl:=aqM hB;refine ACall.of_body func126 rfl ntmps126 results126 rfl ?_;iterate 8 refine AX ?_
 refine .s rfl (zD C158 (evs1 rfl) (amU xs tl hx hl _)) ?_;rintro _ H2 ⟨p2,c2,rfl,hxs2⟩;have hle2:=hxs2.le;iterate 11 refine AM ?_
 refine AWP.cx rfl (λhc14=>?_) (λhc14=>?_)
 ·iterate 7 refine AX ?_
  refine Ret.go (.cons (.tmp _ _ rfl) .nil) _ (hle2) ?_;refine⟨?_,rfl⟩;have h0:val xs=0:=by
   rcases bE (val xs)with h|h
   ·exact h
   have:=aiG h;omega
  rw[h0];rfl
 have hpos:0<val xs:=by
  rcases bE (val xs)with h|h
  ·rw[h]at hc14;exact absurd rfl hc14
  exact h
 iterate 9 refine AX ?_
 refine AWP.tag (t:=4) rfl (λu4 hu4=>?_);have hfu4:=Heap.fresh_of hle2 hu4;have hleu4:=Heap.le_in hle2 u4;refine AWP.loopW (btK (val xs) H) (val xs) ⟨val xs,p2,c2,u4,[],H.live u4,hB,by simp,by rw[aJ];simp,hxs2.live u4,Heap.le_live _ _,Heap.toks_live_same _ _,hfu4,rfl,rfl⟩ sX (hRa _) ?_;rintro _ _ H1 ⟨v,p,c,t,l,Hb,hvB,hl8,hd,hxs,hlb,hlive,hfr,rfl,hk⟩;have hll:l.length≤2500:=by have:=congrArg List.length hd;rw[aR,eK,bQ]at this;omega
 iterate 8 refine AM ?_
 refine AWP.cx rfl (λhc17=>?_) (λhc17=>?_)
 ·have hvp:0<v:=by
   rcases bE v with h|h
   ·rw[h]at hc17;exact absurd hc17 aC
   exact h
  obtain⟨_,b,rfl,hb,hcl,hcm,rfl⟩:=hxs.resolve_left (by rintro⟨h,_⟩;omega);have hlv:=yM hvB;generalize hts:List.replicate (c-(zK v).length) 0=ts;iterate 18 refine AM ?_
  refine AWP.loopW (bkU v b c t l ts Hb) ((zK v).length) ⟨(zK v).length,0,zK v,bB _,rfl,zL _,by decide,λ_ _=>rfl,by simp[val],rfl,rfl,rfl⟩ sX (hRa _) ?_;rintro _ _ _ ⟨j,r,ws,hj,hwl,hwL,hr,hgs,hv,rfl,rfl,hk2⟩;iterate 7 refine AM ?_
  refine AWP.cx rfl (λhc22=>?_) (λhc22=>?_)
  ·have hgv:=Limbs.getD (zL v) (j-1);have hgw:=hwL.getD (j-1);have hts8:=hgs (j-1) aA;have hta:=beF (ts:=ts) (by omega:j-1<ws.length);have hv1:val (ws.drop (j-1+1))*10+r=val ((zK v).drop (j-1+1)):=by rw[show j-1+1=j by omega];exact hv
   obtain⟨hf1,hf2⟩:=arW hr hgv (by decide:(10:Nat)<4294967296);iterate 7 refine AX ?_
   refine .p rfl (adC (tm rfl) (yT 32) aA (by exact bzI hr)) ?_;iterate 2 refine AX ?_
   refine .p rfl (yR (j-1) U135 Z210 (tm rfl) (tm rfl) aA aA) (.e rfl (aaP G210 (tm rfl) (oS _ _ _) (by(rw[aR];omega))) ?_);iterate 6 refine AX ?_
   rw[beF (by omega:j-1<ws.length),hgs (j-1) aA,arN];iterate 4 refine AX ?_
   refine .p rfl (asG (tm rfl) (yT 10) aB aA) ?_;refine AX ?_;refine .p rfl (yR (j-1) U135 Z210 (tm rfl) (tm rfl) aA aA) (.e0 (qS Z210 (tm rfl) (tm rfl) (oS _ _ _) (by(rw[aR];omega))) ?_);try first|rw[sS]|rw[sU aB]
   iterate 15 refine AM ?_
   rw[List.set_append_left _ _ aA,bN (show _<2^IntKind.u32.bits from hf1)];refine Round.mk (J:=bkU v b c t l ts Hb) ⟨j-1,_,_,by omega,by simpa using hwl,Limbs.set hwL hf1,bX _ aC,λq hq=>by rw[getD_set_ne aA];exact hgs q aA,arV aC aA hwl (hgs _ aA) hv1,rfl,rfl,rfl⟩ (zF rfl (zF rfl (zF rfl (zU rfl (by congr 1;omega) zW)))) (hRa _) aA
  have hj0:j=0:=by omega
  subst hj0;rw[dY,dY,zR]at hv;have hwv:val ws=v/10:=by omega
  have hrv:r=v%10:=by omega
  iterate 9 refine AX ?_
  refine .p rfl (aaS (yT 48) (tm rfl) aA) ?_;refine AX ?_;refine .e rfl (yP U252 Z5 V5 rfl (tm rfl) (.inl rfl) ⟨rfl,rfl⟩) ?_;refine .s rfl (qW U252 U252 Z5 typeInfo5 V5 rfl aC (tm rfl) (tm rfl) (by exact .own _ (show Heap.toks _ _=true from hlive)) (by show(_+_)*1≤_;simp only[acP,aX,aY];omega) (by repeat' (first|exact yD _|exact aaC|exact acS ⟨rfl,rfl⟩ aaC|exact qP (yD _)|exact qO (yD _)|refine aaE ?_ ?_ |exact ajQ _ _)) (by repeat' (first|exact yD _|exact aaC|exact acS ⟨rfl,rfl⟩ aaC|exact qP (yD _)|exact qO (yD _)|refine aaE ?_ ?_))) ?_;rintro _ _ ⟨t46,ht46,rfl,hH⟩;obtain rfl:=hH.symm;have hf46:=Heap.fresh_of hlb ht46;have hle46:=Heap.le_in (Heap.le_out (t:=t) hlb aB) t46;iterate 3 refine AX ?_
  rw[bqS];refine AWP.frzU (t:=3) rfl (show Heap.objs _ _=none from hb) (by simp only[aR];omega) hcl hcm ?_;rw[bpD hwl];iterate 2 refine AX ?_
  refine .s rfl (zD C158 (evs1 rfl) (amU ws .shared hwL aA _)) ?_;rintro _ H3 ⟨p3,c3,rfl,hxs3⟩;iterate 4 refine AX ?_
  refine Round.mk (J:=btK (val xs) H) ⟨val ws,p3,c3,t46,l++[48+v%10],_,by omega,λx hx=>by rcases eA.1 hx with h|h;exact hl8 x h;rw[dG.1 h];omega,by rw[hwv];exact bnJ hvp hd,hxs3,hle46,Heap.toks_live_same _ _,hf46,rfl,rfl⟩ (zF rfl (zU rfl (aaX (bnZ _ (by rw[hrv];simp only[IntKind.bits];omega))) zW)) (hRa _) aA
 have hv0:v=0:=by
  rcases bE v with h|h
  ·exact h
  have:=aiG h;omega
 subst hv0;obtain⟨_,rfl⟩:=hxs.resolve_right (by rintro⟨h,_⟩;omega);rw[aN rfl,cP]at hd;iterate 15 refine AX ?_
 iterate 5 refine AM ?_
 refine AWP.tag (t:=8) rfl (λu8 hu8=>?_);have hfu8:=Heap.fresh_of hlb hu8;have hleu8:=Heap.le_in hlb u8;refine AWP.loopW (btB l (.own t) H) (l.length) ⟨l.length,u8,bB _,rfl,hleu8,Heap.toks_live_same _ _,hfu8,rfl⟩ (zF rfl (zU rfl (aaX (by rw[dL];rfl)) (zF rfl zW))) (hRa _) ?_;rintro _ _ H4 ⟨j,t8,hj,rfl,hle4,hlive4,hfr4,hk4⟩;iterate 7 refine AM ?_
 refine AWP.cx rfl (λhc53=>?_) (λhc53=>?_)
 ·iterate 8 refine AX ?_
  refine .p rfl (yL (j-1) U252 Z5 (tm rfl) (tm rfl) aA aA) ?_;refine AX ?_;refine .e rfl (yP U252 Z5 V5 rfl (tm rfl) (.inl rfl) ⟨rfl,rfl⟩) ?_;refine .s rfl (qW U252 U252 Z5 typeInfo5 V5 rfl aC (tm rfl) (tm rfl) (by exact .own _ aB) (by show(_+_)*1≤_;simp only[acP,aX,aY,eK,bC];omega) (by repeat' (first|exact yD _|exact aaC|exact acS ⟨rfl,rfl⟩ aaC|exact qP (yD _)|exact qO (yD _)|refine aaE ?_ ?_ |exact ajQ _ _)) (by repeat' (first|exact yD _|exact aaC|exact acS ⟨rfl,rfl⟩ aaC|exact qP (yD _)|exact qO (yD _)|refine aaE ?_ ?_))) ?_;rintro _ _ ⟨t62,ht62,rfl,hH⟩;obtain rfl:=hH.symm;have hf62:=Heap.fresh_of hle4 ht62;have hle62:=Heap.le_in (Heap.le_out (t:=t8) hle4 aB) t62;iterate 10 refine AM ?_
  refine Round.mk (J:=btB l (.own t) H) ⟨j-1,t62,by omega,rfl,hle62,Heap.toks_live_same _ _,hf62,rfl⟩ (zF rfl (zU rfl (aaX (by rw[←bpZ (l:=l) (j:=j-1) aA,show j-1+1=j by omega];exact bnZ _ rfl)) (zU rfl (by congr 1;omega) zW))) (hRa _) aA
 iterate 6 refine AX ?_
 have hj0:j=0:=by omega
 subst hj0;rw[dY,brQ (l:=l.reverse) (λx hx=>hl8 x (by simpa using hx))];iterate 2 refine AX ?_
 refine .e rfl (arR U252 U9 U5 (tm rfl)) ?_;iterate 4 refine AX ?_
 refine Ret.go (.cons (.tmp _ _ rfl) .nil) _ (hle4) ?_;refine⟨?_,rfl⟩;rw[hd,List.map_reverse];rfl
end
section
open Go Go.RowKit
set_option maxRecDepth 100000
theorem bsL(v n:Nat):4294967296^(n/32)*v*2^(n%32)=v*2^n:=by
 have e2:(4294967296:Nat)^(n/32)*2^(n%32)=2^n:=by
  rw[show(4294967296:Nat)=2^32 by decide,←eX,←dN,dJ]
 rw[bO _ v,bT,e2]
theorem boZ(h:v*2^n<BIG)(hi:i<n%32):2*(4294967296^(n/32)*v*2^i)<BIG:=by
 refine bI ?_ h;rw[←bsL v n,bO 2,bT _ (2^i),←bW];exact dV _ (bS aC hi)
theorem adA(v:Nat)(hv:v<18446744073709551616):Fn 116 [.int .u64 (v:Int)] (qE v):=by
 intro H;refine .of_body func116 rfl ntmps116 results116 rfl ?_;iterate 8 refine AX ?_
 refine .cl rfl C127 (evs1 rfl) (afZ _ aB _) ?_;iterate 5 refine AX ?_
 exact⟨rfl,rfl⟩
def bxQ(xs:List Nat)(tl:Tail)(n:Nat)(H:Heap):Nat→Env→Heap→Prop:=λk env H1=>∃(i:Nat)(zs:List Nat)(tl2:Tail),i≤n%32∧Limbs zs∧zs.length≤20000∧val zs=4294967296^(n/32)*val xs*2^i∧env=[(0,.slice 1 (U .u32 xs) tl),(1,.int .i64 (n:Int)),(5,.slice 1 (U .u32 zs) tl2),(6,.int .i64 (i:Int))]∧H=H1∧k=n%32-i
theorem axI(xs:List Nat)(tl:Tail)(hx:Limbs xs)(hl:xs.length≤10000)(n:Nat)(hn:n≤100000)(q:Int)(hq:q=(n:Int))(hB:val xs*2^n<BIG):Fn 81 [.slice 1 (U .u32 xs) tl,.int .i64 q] (qE (val xs*2^n)):=by
 intro H;subst hq;refine .of_body func81 rfl ntmps81 results81 rfl ?_;iterate 8 refine AX ?_
 refine AM ?_;refine .s rfl (qJ (n/32) U135 typeInfo210 Z210 V210 (tm rfl) (tm rfl) aA aA aC aA) ?_;rintro _ _ ⟨b9,rfl,hb9,hH⟩;obtain rfl:=hH.symm;iterate 4 refine AX ?_
 refine .frzUF (t:=5) rfl hb9 aF rfl (by simp only[zN];omega) ?_;rw[aZ aF];iterate 3 refine AX ?_
 refine .e rfl (amM U135 U135 Z210 typeInfo210 V210 rfl aC (tm rfl) (tm rfl) (by show(_+_)*4≤_;simp only[acP,bA];omega) (by repeat' (first|exact yD _|exact aaC|exact acS ⟨rfl,rfl⟩ aaC|exact qP (yD _)|exact qO (yD _)|refine aaE ?_ ?_ |exact ajQ _ _)) (by repeat' (first|exact yD _|exact aaC|exact acS ⟨rfl,rfl⟩ aaC|exact qP (yD _)|exact qO (yD _)|refine aaE ?_ ?_ |exact ajQ _ _))) ?_;iterate 10 refine AM ?_
 refine .loopW (bxQ xs tl n H) (n%32) ⟨0,List.replicate (n/32) 0++xs,.shared,Nat.zero_le _,(Limbs.rep aC).append hx,by simp;omega,by rw[aaI,aiW,bA];omega,rfl,rfl,rfl⟩ (zF rfl (zF rfl (zU rfl (aaX (avQ _ _ _)) (zF rfl zW)))) (hRa _) ?_;rintro _ _ _ ⟨i,zs,tl2,hi,hz,hzl,hv,rfl,rfl,hk⟩;iterate 9 refine AM ?_
 refine .cx rfl (λhc16=>?_) (λhc16=>?_)
 ·iterate 6 refine AX ?_
  refine .cl rfl call159 (.cons (tm rfl) (.cons yA .nil)) (amT zs tl2 hz aA false _) ?_;have hsm:=yM (boZ hB (show i<n%32 by omega));rw[←hv]at hsm;iterate 10 refine AM ?_
  refine Round.mk ⟨i+1,zK (2*val zs),.shared,by omega,zL _,by omega,by rw[zR,hv,bW,bO 2,bT],rfl,rfl,rfl⟩ sX (hRa _) aA
 iterate 8 refine AX ?_
 refine .cl rfl C158 (evs1 rfl) (qX _ _ aB aA _) ?_;iterate 5 refine AX ?_
 refine⟨?_,rfl⟩;have hi2:i=n%32:=by omega
 rw[hv,hi2,bsL];rfl
def bdA(n:Nat)(H:Heap):Nat→Env→Heap→Prop:=λk env H1=>∃(i:Nat)(tl:Tail),i≤n∧env=[(0,.int .i64 (n:Int)),(3,.slice 1 (U .u32 (zK (5^i))) tl),(4,.int .i64 (i:Int))]∧H=H1∧k=n-i
theorem axA(n:Nat)(hn:n≤100000)(q:Int)(hq:q=(n:Int))(hB:5^n<BIG)(H:Heap):ACall prog 205 [.int .i64 q] H (λy H'=>y=qE (5^n)∧H'=H):=by
 subst hq;refine ACall.of_body func205 rfl ntmps205 results205 rfl ?_;iterate 7 refine AX ?_
 refine .e rfl (yP U135 Z210 V210 rfl (yT 1) (.inl rfl) ⟨rfl,rfl⟩) ?_;iterate 10 refine AM ?_
 refine AWP.loopW (bdA n H) (n) ⟨0,.full,Nat.zero_le _,rfl,rfl,rfl⟩ (zF rfl (zU rfl (aaX rfl) (zF rfl zW))) (hRa _) ?_;rintro _ _ _ ⟨i,tl,hi,rfl,rfl,hk⟩;have hl:=yM (n:=5^i) (bI (bS aC hi) hB);iterate 8 refine AX ?_
 refine AWP.cx rfl (λhc8=>?_) (λhc8=>?_)
 ·iterate 6 refine AX ?_
  refine .e rfl (yP U135 Z210 V210 rfl (yT 5) (.inl rfl) ⟨rfl,rfl⟩) (.cl rfl C77 (evs2 rfl rfl) (adR (zK (5^i)) tl (zL _) aA [5] .full (Limbs.mk aC Limbs.nil) aC _) ?_);rw[zR,show val [5]=5 from rfl,←bW];iterate 10 refine AM ?_
  refine Round.mk (J:=bdA n H) ⟨i+1,.shared,by omega,rfl,rfl,rfl⟩ sX (hRa _) aA
 iterate 12 refine AX ?_
 refine Ret.go (.cons (.weak _ _ _ rfl (.slice _ _ _)) .nil) _ (hRa _) ?_;refine⟨?_,rfl⟩;rw[show i=n by omega];rfl
end
end Go.Proofs.YteedncdcbgplfaaGreatDoor
