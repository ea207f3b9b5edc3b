import Derived.Test.YteedncdcbgplfaaGreatDoorN2
set_option maxHeartbeats 1000000
namespace Go.Proofs.YteedncdcbgplfaaGreatDoor
open Go.Proofs.Tryz
open Go Go.RowKit
variable{Q a b c i j n r v:Nat}{l xs ys zs:List Nat}
section
set_option maxRecDepth 100000
theorem bnY{x:Nat}(hx:x<4294967296)(hc:c≤1):2*x+c<18446744073709551616∧(2*x+c)/4294967296≤1:=by omega
theorem blK(hi:zs.length=i){d:Nat}(h:val zs+4294967296^i*c=2*val (xs.take i)+d):
  val (zs++[(2*xs.getD i 0+c)%4294967296])+4294967296^(i+1)*((2*xs.getD i 0+c)/4294967296)=2*val (xs.take (i+1))+d:=by
 rw[qW,hi,yV,bP];simp only[val,dJ,cA];have e:=fV (2*xs.getD i 0+c) 4294967296;have e2:4294967296^i*((2*xs.getD i 0+c)%4294967296)+4294967296^i*4294967296*((2*xs.getD i 0+c)/4294967296)=2*(4294967296^i*xs.getD i 0)+4294967296^i*c:=by
  rw[bJ,←cB,e,cB,Nat.mul_left_comm]
 omega
theorem ccT(hx:Limbs xs)(i:Nat):xs.getD (i/32) 0/2^(i%32)%2=val xs/2^i%2:=by
 have key:∀(xs:List Nat)(j:Nat),Limbs xs→xs.getD j 0=val xs/4294967296^j%4294967296:=by
  intro xs;induction xs with
  |nil=>intro j _;simp[val]
  |cons x xs ih=>
   intro j hl;obtain⟨h1,h2⟩:=hl.cons;cases j with
   |zero=>rw[eA,gI,val,dW,bH h1];rfl
   |succ j=>
    rw[dF,ih j h2,bP,bM (4294967296^j),←cC,val,fR _ _ aC,cD h1,bZ]
 rw[key xs _ hx];have e:(4294967296:Nat)=2^32:=by decide
 rw[e,←dV];have h32:i%32<32:=bR _ aC;generalize val xs=v;have hi:i=32*(i/32)+i%32:=(cM i 32).symm;generalize i/32=a at *;generalize i%32=r at *;subst hi;rw[bI,←cC];generalize v/2^(32*a)=w;rw[show(32:Nat)=r+(32-r) by omega,bI,Nat.mod_mul,fR _ _ (bL aC),cD (bR _ (bL aC)),bZ];rw[show 32-r=(31-r)+1 by omega,bP,bM,Nat.mod_mul_right_mod]
def axL(xs:List Nat)(tl:Tail)(H:Heap):Nat→Env→Heap→Prop:=λk env H1=>∃n:Nat,n≤xs.length∧qG (xs.take n)=qG xs∧env=[(0,.slice 1 (U .u32 xs) tl),(3,.int .i64 (n:Int))]∧H=H1∧k=n
theorem aaO(xs:List Nat)(tl:Tail)(hx:Limbs xs)(hl:xs.length≤1000000):Fn 158 [.slice 1 (U .u32 xs) tl] (qX (val xs)):=by
 intro H;refine .of_body func158 rfl ntmps158 results158 rfl ?_;iterate 14 refine AX ?_
 refine .loopW (axL xs tl H) (xs.length) ⟨xs.length,aZ _,by rw[cX],rfl,rfl,rfl⟩ sX (hRa _) ?_;rintro _ _ _ ⟨n,hn,hr,rfl,rfl,hk⟩;refine AX ?_;refine .seqTo 15 (.bool (decide (0<(n:Int))&&decide (((xs.getD (n-1) 0:Nat):Int)=0))) [0,3] ?_ ?_
 ·iterate 4 refine AX ?_
  refine zD (t:=8) rfl (λhg8=>?_) (λhg8=>?_)
  ·have hh8:=hg8;try simp only[aT]at hh8
   iterate 3 refine AX ?_
   refine .gp rfl rfl rfl aB (zV (n-1) U135 Z210 (tm rfl) (tm rfl) aA aA) ?_;iterate 4 refine AM ?_
   exact⟨rfl,zS rfl aI sX,rfl⟩
  have hh8:=hg8;try simp only[aR,cU]at hh8
  iterate 8 refine AX ?_
  exact⟨rfl,zS rfl aI sX,rfl⟩
 refine .sub [(15,_),(0,_),(3,_)] sX ?_;refine .cx rfl (λhc15=>?_) (λhc15=>?_)
 ·simp only[bN,aT]at hc15;iterate 10 refine AX ?_
  have hs:=acC (xs:=xs) (k:=n-1) aA;rw[show n-1+1=n by omega,aK]at hs;refine Round.mk ⟨n-1,by omega,by rw[←hs,hr],rfl,rfl,rfl⟩ (zK rfl (zR rfl (by rw[show((n:Int)-1)=((n-1:Nat):Int) by omega]) yF)) (hRa _) aA
 simp only[cJ,aR]at hc15;iterate 7 refine AX ?_
 refine .e rfl (awZ U135 Z210 V210) ?_;iterate 2 refine AX ?_
 refine .p rfl (adE (_) U135 Z210 (tm rfl) (tm rfl) rfl aA) ?_;refine .e rfl (aoL U135 U135 Z210 typeInfo210 V210 rfl aC (tm rfl) (tm rfl) (by show(_+_)*4≤_;simp only[adH,aV,bG];omega) (by repeat' (first|exact zX _|exact qY|exact adD ⟨rfl,rfl⟩ qY|exact qO (zX _)|exact qN (zX _)|refine aaC ?_ ?_ |exact(λ_ h=>by simp at h))) (by repeat' (first|exact zX _|exact qY|exact adD ⟨rfl,rfl⟩ qY|exact qO (zX _)|exact qN (zX _)|refine aaC ?_ ?_ |exact alS _ _))) ?_;iterate 5 refine AX ?_
 refine⟨?_,rfl⟩;have hq:n=qG xs:=by
  rcases bF n with h0|h0
  ·subst h0;rw[←hr];rfl
  have hs:=acC (xs:=xs) (k:=n-1) aA;rw[show n-1+1=n by omega,aJ,hr]at hs;exact hs.symm
 rw[hq,cH,adJ hx];rfl
theorem bsP(v:Nat)(hv:v<18446744073709551616):Fn 127 [.int .u64 (v:Int)] (qX v):=by
 intro H;refine .of_body func127 rfl ntmps127 results127 rfl ?_;iterate 8 refine AX ?_
 iterate 5 refine AM ?_
 refine .e rfl (aeT U135 Z210 V210 rfl (tm rfl) (.inl rfl) ⟨rfl,rfl⟩ (tm rfl) (.inl rfl) ⟨rfl,rfl⟩) ?_;refine .cl rfl C158 (evs1 rfl) (aaO [v%4294967296%2^IntKind.u32.bits,v/2^32%2^IntKind.u32.bits] .full (Limbs.mk (by simp only[IntKind.bits];omega) (Limbs.mk (by simp only[IntKind.bits];omega) Limbs.nil)) aF _) ?_;iterate 5 refine AX ?_
 refine⟨?_,rfl⟩;show qX _=_;congr 1;simp only[val,IntKind.bits];omega
theorem afS(xs:List Nat)(tl:Tail)(hx:Limbs xs)(_:xs.length≤1000000)(i:Nat)(q:Int)(hq:q=(i:Int))(H:Heap):ACall prog 211 [.slice 1 (U .u32 xs) tl,.int .i64 q] H (λy H'=>y= .int .u64 ((xs.getD i 0:Nat):Int)∧H'=H):=by
 subst hq;have hg:=hx.getD i;refine ACall.of_body func211 rfl ntmps211 results211 rfl ?_;iterate 6 refine AM ?_
 refine AWP.seqTo 12 (.bool (decide ((i:Int)<0)||decide ((xs.length:Int)≤(i:Int)))) [0,1,4] ?_ ?_
 ·iterate 2 refine AX ?_
  refine .p rfl (aaH (tm rfl) zJ) (.mv rfl rfl ?_);refine zD (t:=7) rfl (λhg7=>?_) (λhg7=>?_)
  ·have hh7:=hg7;try simp only[aT]at hh7
   refine .gn rfl rfl rfl aB (.gn rfl rfl rfl aB (.gn rfl rfl rfl aB (.gn rfl rfl rfl aB (.p rfl (yI (tm rfl) aB zT) (.nil ?_)))));exact⟨rfl,zS rfl (by(simp[*];done)) sX,rfl⟩
  have hh7:=hg7;try simp only[aR,cU]at hh7
  iterate 6 refine AX ?_
  exact⟨rfl,zS rfl aD sX,rfl⟩
 refine AWP.sub [(12,_),(0,_),(1,_),(4,_)] sX ?_;refine AWP.cond (tm rfl) (λhc12=>?_) (λhc12=>?_)
 ·try simp only[aL]at hc12
  simp only[dB,aT]at hc12;iterate 7 refine AM ?_
  refine Ret.go (.cons (.tmp _ _ rfl) .nil) _ (hRa _) ?_;refine⟨?_,rfl⟩;rw[aeX aA];rfl
 try simp only[aL]at hc12
 simp only[dQ,aR]at hc12;iterate 6 refine AX ?_
 refine .p rfl (zV (i) U135 Z210 (tm rfl) (tm rfl) aA aA) ?_;iterate 6 refine AX ?_
 refine Ret.go (.cons (.tmp _ _ rfl) .nil) _ (hRa _) ?_;exact⟨rfl,rfl⟩
theorem ahF(xs:List Nat)(tl:Tail)(hx:Limbs xs)(hl:xs.length≤1000000)(i:Nat)(hi:i≤1000000000)(q:Int)(hq:q=(i:Int)):Fn 156 [.slice 1 (U .u32 xs) tl,.int .i64 q] (.bool (decide (((val xs/2^i%2:Nat):Int)=1))):=by
 intro H;subst hq;have hg:=hx.getD (i/32);refine .of_body func156 rfl ntmps156 results156 rfl ?_;iterate 10 refine AM ?_
 refine .cl rfl C211 (evs2 rfl rfl) (afS _ _ aB aB _ _ rfl _) ?_;iterate 3 refine AM ?_
 refine .p rfl (aaM (tm rfl) (tm rfl) aA) ?_;iterate 7 refine AM ?_
 refine⟨?_,rfl⟩;rw[←ccT hx];rfl
end
section
open Go Go.RowKit
set_option maxRecDepth 100000
theorem rTrimX(c:Nat)(m:Int)(tl:Tail)(hz:Limbs zs)(hm:m=(c:Int))(hc:c<4294967296)(hl:zs.length+1≤1000000)(H:Heap):
  ACall prog 158 [.slice 1 (U .u32 zs++[.int .u32 m]) tl] H (λy H'=>y=qX (val zs+4294967296^zs.length*c)∧H'=H):=by
 subst hm;have:=aaO (zs++[c]) tl (hz.append (Limbs.mk hc Limbs.nil)) aG H;rw[←azJ,qW]at this;simp only[val,dJ,cA]at this;exact this
theorem bwW{m:Int}(c:Nat)(hm:m=(c:Int)):U .u32 zs++[.int .u32 m]=U .u32 (zs++[c]):=by
 subst hm;rw[←azJ];rfl
theorem auJ:(2:Nat)^32=4294967296:=by decide
theorem ayP(h:Limbs zs)(hc:c<4294967296):Limbs (zs++[c]):=h.append (Limbs.mk hc Limbs.nil)
def cjV(xs:List Nat)(tl:Tail)(b:Bool)(H:Heap):Nat→Env→Heap→Prop:=λk env H1=>∃(i t:Nat)(zs:List Nat)(c:Nat),i≤xs.length∧zs.length=i∧Limbs zs∧c≤1∧val zs+4294967296^i*c=2*val (xs.take i)+b.toNat∧env=[(0,.slice 1 (U .u32 xs) tl),(5,.slice 1 (U .u32 zs) (.own t)),(6,.int .u64 (c:Int)),(7,.int .i64 (i:Int))]∧H.le H1∧H1.toks t=true∧H.toks t=false∧k=xs.length-i
theorem aoS(xs:List Nat)(tl:Tail)(hx:Limbs xs)(hl:xs.length≤900000)(b:Bool)(H:Heap):ACall prog 159 [.slice 1 (U .u32 xs) tl,.bool b] H (λy H'=>y=qX (2*val xs+b.toNat)∧H'=H):=by
 have hle0:=hRa H;refine ACall.of_body func159 rfl ntmps159 results159 rfl ?_;iterate 12 refine AX ?_
 iterate 3 refine AM ?_
 refine AWP.seqToL [(6,.int .u64 ((b.toNat:Nat):Int))] [0,4,5] ?_ ?_
 ·iterate 5 refine AX ?_
  refine AWP.cx rfl (λhc9=>?_) (λhc9=>?_)
  ·iterate 3 refine AM ?_
   exact⟨rfl,(zR rfl (by simp[hc9]) sX),rfl⟩
  refine AX ?_;exact⟨rfl,(zR rfl (by simp[hc9]) sX),rfl⟩
 refine AWP.sub [(6,_),(0,_),(4,_),(5,_)] sX ?_;iterate 7 refine AX ?_
 refine AWP.tag (t:=5) rfl (λu5 hu5=>?_);have hfu5:=Heap.fresh_of hle0 hu5;have hleu5:=Heap.le_in hle0 u5;refine AWP.loopW (cjV xs tl b H) (xs.length) ⟨0,u5,[],b.toNat,Nat.zero_le _,rfl,Limbs.nil,by cases b<;>decide,by simp[val],rfl,hleu5,Heap.toks_live_same _ _,hfu5,by omega⟩ sX (hRa _) ?_;rintro _ _ H1 ⟨i,t,zs,c,hi,hzl,hz,hc,hv,rfl,hle,hlive,hfr,rfl⟩;have hg:=hx.getD i;obtain⟨hp1,hp2⟩:=bnY hg hc;iterate 9 refine AX ?_
 refine AWP.cx rfl (λhc13=>?_) (λhc13=>?_)
 ·iterate 8 refine AX ?_
  refine .p rfl (zV (_) U135 Z210 (tm rfl) (tm rfl) rfl aA) ?_;iterate 2 refine AX ?_
  refine .p rfl (adP (yB 2) (tm rfl) aA) ?_;iterate 11 refine AM ?_
  refine .e rfl (yJ U135 Z210 V210 rfl (tm rfl) (.inl rfl) ⟨rfl,rfl⟩) ?_;refine .s rfl (qT U135 U135 Z210 typeInfo210 V210 rfl aC (tm rfl) (tm rfl) (by exact .own _ aB) (by show(_+_)*4≤_;simp only[adH,bG,aW];omega) (by repeat' (first|exact zX _|exact qY|exact adD ⟨rfl,rfl⟩ qY|exact qO (zX _)|exact qN (zX _)|refine aaC ?_ ?_ |exact alS _ _)) (by repeat' (first|exact zX _|exact qY|exact adD ⟨rfl,rfl⟩ qY|exact qO (zX _)|exact qN (zX _)|refine aaC ?_ ?_))) ?_;rintro _ _ ⟨t29,ht29,rfl,hH⟩;obtain rfl:=hH.symm;have hf29:=Heap.fresh_of hle ht29;have hle29:=Heap.le_in (Heap.le_out (t:=t) hle aB) t29;iterate 12 refine AM ?_
  iterate 4 refine AX ?_
  refine Round.mk (J:=cjV xs tl b H) ⟨i+1,t29,zs++[(2*xs.getD i 0+c)%4294967296],(2*xs.getD i 0+c)/4294967296,by omega,by simp[hzl],ayP hz (bR _ aC),hp2,blK hzl hv,rfl,hle29,Heap.toks_live_same _ _,hf29,rfl⟩ (zK rfl (zR rfl (abB (bwW _ (by simp only[IntKind.bits];rw[bH (bR _ aC)]))) sX)) (hRa _) aA
 iterate 10 refine AX ?_
 refine .e rfl (yJ U135 Z210 V210 rfl (tm rfl) (.inl rfl) ⟨rfl,rfl⟩) ?_;refine .s rfl (qT U135 U135 Z210 typeInfo210 V210 rfl aC (tm rfl) (tm rfl) (by exact .own _ aB) (by show(_+_)*4≤_;simp only[adH,bG,aW];omega) (by repeat' (first|exact zX _|exact qY|exact adD ⟨rfl,rfl⟩ qY|exact qO (zX _)|exact qN (zX _)|refine aaC ?_ ?_ |exact alS _ _)) (by repeat' (first|exact zX _|exact qY|exact adD ⟨rfl,rfl⟩ qY|exact qO (zX _)|exact qN (zX _)|refine aaC ?_ ?_))) ?_;rintro _ _ ⟨t36,ht36,rfl,hH⟩;obtain rfl:=hH.symm;have hf36:=Heap.fresh_of hle ht36;have hle36:=Heap.le_in (Heap.le_out (t:=t) hle aB) t36;iterate 6 refine AX ?_
 refine .cl rfl C158 (evs1 rfl) (rTrimX c _ _ hz (by simp only[IntKind.bits];omega) aA aA _) ?_;iterate 4 refine AX ?_
 refine Ret.go (.cons (.tmp _ _ rfl) .nil) _ (hle36) ?_;refine⟨?_,rfl⟩;have hix:i=xs.length:=by omega
 rw[hzl,hv,hix,cX];rfl
end
section
open Go Go.RowKit
set_option maxRecDepth 100000
theorem bsY(hi:zs.length=i)(h:val zs+4294967296^i*c=val (xs.take i)+val (ys.take i)):
  val (zs++[(xs.getD i 0+ys.getD i 0+c)%4294967296])+4294967296^(i+1)*((xs.getD i 0+ys.getD i 0+c)/4294967296)=val (xs.take (i+1))+val (ys.take (i+1)):=by
 rw[qW,hi,yV,yV,bP];simp only[val,dJ,cA];have e:=fV (xs.getD i 0+ys.getD i 0+c) 4294967296;have e2:4294967296^i*((xs.getD i 0+ys.getD i 0+c)%4294967296)+4294967296^i*4294967296*((xs.getD i 0+ys.getD i 0+c)/4294967296)=4294967296^i*xs.getD i 0+4294967296^i*ys.getD i 0+4294967296^i*c:=by
  rw[bJ,←cB,e,cB,cB]
 omega
theorem bnD{x y:Nat}(hx:x<4294967296)(hy:y<4294967296)(hc:c≤1):(x+y+c)/4294967296≤1:=by omega
theorem buQ{m d:Nat}(hi:zs.length=i)(h:val zs+val (ys.take i)=val (xs.take i)+4294967296^i*c)(hm:m+(ys.getD i 0+c)=xs.getD i 0+4294967296*d):
  val (zs++[m])+val (ys.take (i+1))=val (xs.take (i+1))+4294967296^(i+1)*d:=by
 rw[qW,hi,yV,yV,bP];simp only[val,dJ,cA];have e2:4294967296^i*m+4294967296^i*ys.getD i 0+4294967296^i*c=4294967296^i*xs.getD i 0+4294967296^i*4294967296*d:=by
  rw[bJ,←cB,←cB,←cB];congr 1;omega
 omega
theorem caW(_hn:xs.length=n)(hzl:zs.length=n)(hz:Limbs zs)(hx:Limbs xs)(hc:c≤1)(h:val zs+val (ys.take n)=val xs+4294967296^n*c)(hle:val ys≤val xs):val zs=val xs-val ys:=by
 have h1:=aeO hz;have h2:=aeO hx;rw[hzl]at h1;rw[_hn]at h2;have h3:val (ys.take n)=val ys:=by
  rcases bX n ys.length with hl|hl
  ·have h4:val ys=val (ys.take n)+4294967296^n*val (ys.drop n):=by
    have:=qW (ys.take n) (ys.drop n);rw[cK,aV,cZ aA]at this;exact this
   rcases bF (val (ys.drop n))with h5|h5
   ·rw[h5]at h4;omega
   have h6:4294967296^n*1≤4294967296^n*val (ys.drop n):=bS _ h5;omega
  rw[aY hl]
 rcases bF c with h5|h5
 ·rw[h5]at h;omega
 have:c=1:=by omega
 rw[this]at h;omega
def brT(xs ys:List Nat)(tl tl2:Tail)(H:Heap):Nat→Env→Heap→Prop:=λk env H1=>∃(i t:Nat)(zs:List Nat)(c:Nat),zs.length=i∧i≤100000∧Limbs zs∧c≤1∧val zs+4294967296^i*c=val (xs.take i)+val (ys.take i)∧env=[(0,.slice 1 (U .u32 xs) tl),(1,.slice 1 (U .u32 ys) tl2),(5,.slice 1 (U .u32 zs) (.own t)),(6,.int .u64 (c:Int)),(7,.int .i64 (i:Int))]∧H.le H1∧H1.toks t=true∧H.toks t=false∧k=xs.length+ys.length-i
theorem beZ(xs:List Nat)(tl:Tail)(hx:Limbs xs)(hl:xs.length≤100000)(ys:List Nat)(tl2:Tail)(hy:Limbs ys)(hm:ys.length≤100000)(H:Heap):ACall prog 128 [.slice 1 (U .u32 xs) tl,.slice 1 (U .u32 ys) tl2] H (λy H'=>y=qX (val xs+val ys)∧H'=H):=by
 have hle0:=hRa H;refine ACall.of_body func128 rfl ntmps128 results128 rfl ?_;iterate 12 refine AX ?_
 iterate 6 refine AM ?_
 iterate 4 refine AX ?_
 refine AWP.tag (t:=5) rfl (λu5 hu5=>?_);have hfu5:=Heap.fresh_of hle0 hu5;have hleu5:=Heap.le_in hle0 u5;refine AWP.loopW (brT xs ys tl tl2 H) (xs.length+ys.length) ⟨0,u5,[],0,rfl,Nat.zero_le _,Limbs.nil,by decide,by simp[val],rfl,hleu5,Heap.toks_live_same _ _,hfu5,by omega⟩ sX (hRa _) ?_;rintro _ _ H1 ⟨i,t,zs,c,hzl,hi,hz,hc,hv,rfl,hle,hlive,hfr,rfl⟩;refine AX ?_;refine AWP.seqTo 18 (.bool (decide ((i:Int)<(xs.length:Int))||decide ((i:Int)<(ys.length:Int)))) [0,1,5,6,7] ?_ ?_
 ·iterate 6 refine AX ?_
  refine zD (t:=13) rfl (λhg13=>?_) (λhg13=>?_)
  ·have hh13:=hg13;try simp only[aT]at hh13
   iterate 6 refine AX ?_
   exact⟨rfl,zS rfl (by(rw[hg13];rfl)) sX,rfl⟩
  have hh13:=hg13;try simp only[aR,cU]at hh13
  iterate 6 refine AX ?_
  exact⟨rfl,zS rfl (by(rw[hg13];rfl)) sX,rfl⟩
 refine AWP.sub [(18,_),(0,_),(1,_),(5,_),(6,_),(7,_)] sX ?_;refine AWP.cx rfl (λhc18=>?_) (λhc18=>?_)
 ·simp only[dB,aT]at hc18;have hgx:=hx.getD i;have hgy:=hy.getD i;have hcc:=bnD hgx hgy hc;iterate 8 refine AX ?_
  refine .cl rfl C211 (evs2 rfl rfl) (afS _ _ aB aA _ _ rfl _) ?_;iterate 2 refine AX ?_
  refine .cl rfl C211 (evs2 rfl rfl) (afS _ _ aB aA _ _ rfl _) ?_;iterate 12 refine AM ?_
  refine .e rfl (yJ U135 Z210 V210 rfl (tm rfl) (.inl rfl) ⟨rfl,rfl⟩) ?_;refine .s rfl (qT U135 U135 Z210 typeInfo210 V210 rfl aC (tm rfl) (tm rfl) (by exact .own _ aB) (by show(_+_)*4≤_;simp only[adH,bG,aW];omega) (by repeat' (first|exact zX _|exact qY|exact adD ⟨rfl,rfl⟩ qY|exact qO (zX _)|exact qN (zX _)|refine aaC ?_ ?_ |exact alS _ _)) (by repeat' (first|exact zX _|exact qY|exact adD ⟨rfl,rfl⟩ qY|exact qO (zX _)|exact qN (zX _)|refine aaC ?_ ?_))) ?_;rintro _ _ ⟨t35,ht35,rfl,hH⟩;obtain rfl:=hH.symm;have hf35:=Heap.fresh_of hle ht35;have hle35:=Heap.le_in (Heap.le_out (t:=t) hle aB) t35;iterate 5 refine AX ?_
  refine .p rfl (aaM (tm rfl) (yB 32) aA) ?_;iterate 10 refine AX ?_
  refine Round.mk (J:=brT xs ys tl tl2 H) ⟨i+1,t35,zs++[(xs.getD i 0+ys.getD i 0+c)%4294967296],(xs.getD i 0+ys.getD i 0+c)/4294967296,by simp[hzl],by omega,ayP hz (bR _ aC),hcc,bsY hzl hv,rfl,hle35,Heap.toks_live_same _ _,hf35,rfl⟩ (zK rfl (zK rfl (zR rfl (abB (bwW _ (by simp only[IntKind.bits];rw[bH (bR _ aC)]))) sX))) (hRa _) aA
 simp only[dQ,aR]at hc18;iterate 10 refine AX ?_
 refine .e rfl (yJ U135 Z210 V210 rfl (tm rfl) (.inl rfl) ⟨rfl,rfl⟩) ?_;refine .s rfl (qT U135 U135 Z210 typeInfo210 V210 rfl aC (tm rfl) (tm rfl) (by exact .own _ aB) (by show(_+_)*4≤_;simp only[adH,bG,aW];omega) (by repeat' (first|exact zX _|exact qY|exact adD ⟨rfl,rfl⟩ qY|exact qO (zX _)|exact qN (zX _)|refine aaC ?_ ?_ |exact alS _ _)) (by repeat' (first|exact zX _|exact qY|exact adD ⟨rfl,rfl⟩ qY|exact qO (zX _)|exact qN (zX _)|refine aaC ?_ ?_))) ?_;rintro _ _ ⟨t42,ht42,rfl,hH⟩;obtain rfl:=hH.symm;have hf42:=Heap.fresh_of hle ht42;have hle42:=Heap.le_in (Heap.le_out (t:=t) hle aB) t42;iterate 6 refine AX ?_
 refine .cl rfl C158 (evs1 rfl) (rTrimX c _ _ hz (by simp only[IntKind.bits];omega) aA aA _) ?_;iterate 4 refine AX ?_
 refine Ret.go (.cons (.tmp _ _ rfl) .nil) _ (hle42) ?_;refine⟨?_,rfl⟩;rw[aY aA,aY aA]at hv;rw[hzl,hv];rfl
def bsF(xs ys:List Nat)(tl tl2:Tail)(H:Heap):Nat→Env→Heap→Prop:=λk env H1=>∃(i t:Nat)(zs:List Nat)(c:Nat),i≤xs.length∧zs.length=i∧Limbs zs∧c≤1∧val zs+val (ys.take i)=val (xs.take i)+4294967296^i*c∧env=[(0,.slice 1 (U .u32 xs) tl),(1,.slice 1 (U .u32 ys) tl2),(5,.slice 1 (U .u32 zs) (.own t)),(6,.int .u64 (c:Int)),(7,.int .i64 (i:Int))]∧H.le H1∧H1.toks t=true∧H.toks t=false∧k=xs.length-i
theorem bfA(xs:List Nat)(tl:Tail)(hx:Limbs xs)(hl:xs.length≤100000)(ys:List Nat)(tl2:Tail)(hy:Limbs ys)(hm:ys.length≤100000)(hle:val ys≤val xs)(H:Heap):ACall prog 161 [.slice 1 (U .u32 xs) tl,.slice 1 (U .u32 ys) tl2] H (λy H'=>y=qX (val xs-val ys)∧H'=H):=by
 have hle0:=hRa H;refine ACall.of_body func161 rfl ntmps161 results161 rfl ?_;iterate 12 refine AX ?_
 iterate 6 refine AM ?_
 iterate 4 refine AX ?_
 refine AWP.tag (t:=5) rfl (λu5 hu5=>?_);have hfu5:=Heap.fresh_of hle0 hu5;have hleu5:=Heap.le_in hle0 u5;refine AWP.loopW (bsF xs ys tl tl2 H) (xs.length) ⟨0,u5,[],0,Nat.zero_le _,rfl,Limbs.nil,by decide,by simp[val],rfl,hleu5,Heap.toks_live_same _ _,hfu5,by omega⟩ sX (hRa _) ?_;rintro _ _ H1 ⟨i,t,zs,c,hi,hzl,hz,hc,hv,rfl,hle1,hlive,hfr,rfl⟩;iterate 9 refine AX ?_
 refine AWP.cx rfl (λhc13=>?_) (λhc13=>?_)
 ·have hgx:=hx.getD i;have hgy:=hy.getD i;iterate 8 refine AX ?_
  refine .cl rfl C211 (evs2 rfl rfl) (afS _ _ aB aA _ _ rfl _) ?_;iterate 7 refine AX ?_
  refine .cl rfl C211 (evs2 rfl rfl) (afS _ _ aB aA _ _ rfl _) ?_;iterate 10 refine AM ?_
  refine AWP.seqToL [(8,.int .u64 ((if xs.getD i 0<(ys.getD i 0+c)then xs.getD i 0+4294967296 else xs.getD i 0:Nat):Int)),(6,.int .u64 (((if xs.getD i 0<(ys.getD i 0+c)then 1 else 0):Nat):Int))] [0,1,5,7,9] ?_ ?_
  ·iterate 7 refine AX ?_
   refine AWP.cx rfl (λhc26=>?_) (λhc26=>?_)
   ·iterate 3 refine AX ?_
    refine .p rfl (qF (tm rfl) (yB 4294967296) aA) ?_;iterate 6 refine AM ?_
    exact⟨rfl,(zR rfl (by rw[aK]) (zR rfl (by rw[aK]) sX)),rfl⟩
   refine AX ?_;exact⟨rfl,(zR rfl (by(rw[aJ];done)) (zR rfl (by(rw[aJ];done)) sX)),rfl⟩
  refine AWP.sub [(8,_),(6,_),(0,_),(1,_),(5,_),(7,_),(9,_)] sX ?_;generalize hw:(if xs.getD i 0<(ys.getD i 0+c)then xs.getD i 0+4294967296 else xs.getD i 0)=w at *;generalize hd:(if xs.getD i 0<(ys.getD i 0+c)then 1 else 0)=d at *;have hwd:(ys.getD i 0+c)≤w∧w-(ys.getD i 0+c)<4294967296∧w<18446744073709551616∧d≤1∧w-(ys.getD i 0+c)+(ys.getD i 0+c)=xs.getD i 0+4294967296*d:=by(split at hw<;>rename_i hq<;>(first|rw[aN hq]at hd|rw[aM hq]at hd)<;>omega)
  obtain⟨hw1,hw2,hw3,hw4,hw5⟩:=hwd;iterate 4 refine AX ?_
  refine .p rfl (afT (tm rfl) (tm rfl) aB aB) ?_;refine AX ?_;refine .e rfl (yJ U135 Z210 V210 rfl (tm rfl) (.inl rfl) ⟨rfl,rfl⟩) ?_;refine .s rfl (qT U135 U135 Z210 typeInfo210 V210 rfl aC (tm rfl) (tm rfl) (by exact .own _ aB) (by show(_+_)*4≤_;simp only[adH,bG,aW];omega) (by repeat' (first|exact zX _|exact qY|exact adD ⟨rfl,rfl⟩ qY|exact qO (zX _)|exact qN (zX _)|refine aaC ?_ ?_ |exact alS _ _)) (by repeat' (first|exact zX _|exact qY|exact adD ⟨rfl,rfl⟩ qY|exact qO (zX _)|exact qN (zX _)|refine aaC ?_ ?_))) ?_;rintro _ _ ⟨t35,ht35,rfl,hH⟩;obtain rfl:=hH.symm;have hf35:=Heap.fresh_of hle1 ht35;have hle35:=Heap.le_in (Heap.le_out (t:=t) hle1 aB) t35;iterate 10 refine AX ?_
  refine Round.mk (J:=bsF xs ys tl tl2 H) ⟨i+1,t35,zs++[w-(ys.getD i 0+c)],d,by omega,by simp[hzl],ayP hz hw2,hw4,buQ hzl hv hw5,rfl,hle35,Heap.toks_live_same _ _,hf35,rfl⟩ (zK rfl (zK rfl (zR rfl (abB (bwW _ (by simp only[IntKind.bits];omega))) sX))) (hRa _) aA
 iterate 8 refine AX ?_
 refine .cl rfl C158 (evs1 rfl) (aaO _ _ hz aA _) ?_;iterate 4 refine AX ?_
 refine Ret.go (.cons (.tmp _ _ rfl) .nil) _ (hle1) ?_;refine⟨?_,rfl⟩;have hix:i=xs.length:=by omega
 rw[hix,cX]at hv;rw[caW rfl (hzl.trans hix) hz hx hc hv hle];rfl
def cdY(xs ys:List Nat)(H:Heap):Nat→Env→Heap→Prop:=λk env H1=>∃i:Nat,i≤xs.length∧xs.drop (xs.length-i)=ys.drop (xs.length-i)∧env=[(5,.slice 1 (U .u32 xs) .shared),(6,.slice 1 (U .u32 ys) .shared),(7,.int .i64 ((xs.length:Int)-1-i))]∧H=H1∧k=xs.length-i
theorem bmP(xs:List Nat)(tl:Tail)(hx:Limbs xs)(hl:xs.length≤100000)(ys:List Nat)(tl2:Tail)(hy:Limbs ys)(hm:ys.length≤100000):Fn 160 [.slice 1 (U .u32 xs) tl,.slice 1 (U .u32 ys) tl2] (.int .i64 (azE (val xs) (val ys))):=by
 intro H;have hr:=aaR xs;have hrl:=abD hx;have hs:=aaR ys;have hsl:=abD hy;refine .of_body func160 rfl ntmps160 results160 rfl ?_;iterate 8 refine AX ?_
 refine .cl rfl C158 (evs1 rfl) (aaO _ _ aB aA _) ?_;iterate 6 refine AX ?_
 refine .cl rfl C158 (evs1 rfl) (aaO _ _ aB aA _) ?_;iterate 13 refine AX ?_
 refine .cx rfl (λhc16=>?_) (λhc16=>?_)
 ·iterate 10 refine AX ?_
  refine .cx rfl (λhc21=>?_) (λhc21=>?_)
  ·iterate 9 refine AX ?_
   refine⟨?_,rfl⟩;rw[azE,aN (agM aA)];rfl
  iterate 10 refine AX ?_
  refine⟨?_,rfl⟩;have:=agM (a:=val ys) (b:=val xs) aA;rw[azE,aJ,aN this];rfl
 have hLx:=zH (val xs);have hLy:=zH (val ys);have hvx:=zN (val xs);have hvy:=zN (val ys);have hlen:(zF (val xs)).length=(zF (val ys)).length:=by omega
 iterate 12 refine AX ?_
 refine .loopW (cdY (zF (val xs)) (zF (val ys)) H) ((zF (val xs)).length) ⟨0,Nat.zero_le _,by rw[gU,fL,hlen,fL],rfl,rfl,rfl⟩ (zK rfl (zK rfl (zR rfl aF yF))) (hRa _) ?_;rintro _ _ _ ⟨i,hi,hd,rfl,rfl,rfl⟩;iterate 7 refine AX ?_
 refine .cx rfl (λhc26=>?_) (λhc26=>?_)
 ·have hds:(zF (val xs)).drop ((zF (val xs)).length-1-i+1)=(zF (val ys)).drop ((zF (val xs)).length-1-i+1):=by rw[show(zF (val xs)).length-1-i+1=(zF (val xs)).length-i by omega];exact hd
  iterate 6 refine AX ?_
  refine .draw [(0,true),(1,true),(2,true),(3,true),(4,true),(5,true),(6,true),(7,true),(8,true)] rfl aE ?_;iterate 2 refine AX ?_
  refine .p rfl rfl (zV ((zF (val xs)).length-1-i) U135 Z210 (tm rfl) (tm rfl) aA aA) ?_;iterate 3 refine AX ?_
  refine .p rfl rfl (zV ((zF (val xs)).length-1-i) U135 Z210 (tm rfl) (tm rfl) aA aA) ?_;iterate 4 refine AX ?_
  refine .cx rfl (λhc37=>?_) (λhc37=>?_)
  ·iterate 13 refine AX ?_
   refine⟨?_,rfl⟩;have:=ahX hLx hLy hlen (k:=(zF (val xs)).length-1-i) aA hds aA;rw[hvx,hvy]at this;rw[azE,aK];rfl
  iterate 3 refine AX ?_
  refine .draw [(0,true),(1,true),(2,true),(3,true),(4,true),(5,true),(6,true),(7,true),(8,true)] rfl aE ?_;iterate 2 refine AX ?_
  refine .p rfl rfl (zV ((zF (val xs)).length-1-i) U135 Z210 (tm rfl) (tm rfl) aA aA) ?_;iterate 3 refine AX ?_
  refine .p rfl rfl (zV ((zF (val xs)).length-1-i) U135 Z210 (tm rfl) (tm rfl) aA aA) ?_;iterate 4 refine AX ?_
  refine .cx rfl (λhc46=>?_) (λhc46=>?_)
  ·iterate 12 refine AX ?_
   refine⟨?_,rfl⟩;have:=ahX hLy hLx hlen.symm (k:=(zF (val xs)).length-1-i) aA hds.symm aA;rw[hvx,hvy]at this;rw[azE,aJ,aK];rfl
  iterate 9 refine AX ?_
  refine Round.mk ⟨i+1,by omega,by rw[show(zF (val xs)).length-(i+1)=(zF (val xs)).length-1-i by omega];exact bcT hlen aA hds aA,rfl,rfl,rfl⟩ (zK rfl (zK rfl (zR rfl (by congr 1;omega) yF))) (hRa _) aA
 iterate 12 refine AX ?_
 refine⟨?_,rfl⟩;have h0:(zF (val xs)).length-i=0:=by omega
 have hxy:zF (val xs)=zF (val ys):=by rw[h0]at hd;simpa using hd
 rw[bcC hxy,azE,aM (fX _),aM (fX _)];rfl
end
section
open Go Go.RowKit
set_option maxRecDepth 100000
def cdM(xs ys:List Nat)(tl tl2:Tail)(b:Nat)(H:Heap):Nat→Env→Heap→Prop:=λk env H1=>∃(i:Nat)(zs:List Nat),i≤xs.length∧zs.length=(xs.length+ys.length+1)∧Limbs zs∧(∀j,i+ys.length≤j→zs.getD j 0=0)∧val zs=val (xs.take i)*val ys∧env=[(0,.slice 1 (U .u32 xs) tl),(1,.slice 1 (U .u32 ys) tl2),(5,.mslice (some ⟨b,0,none⟩) (xs.length+ys.length+1) (xs.length+ys.length+1)),(6,.int .i64 (i:Int))]∧H1=H.set b (.box 210 (U .u32 zs))∧k=xs.length-i
def brS(xs ys:List Nat)(tl tl2:Tail)(b i:Nat)(o0:List Nat)(H:Heap):Nat→Env→Heap→Prop:=λk env H1=>∃(j c:Nat)(zs:List Nat),j≤ys.length∧zs.length=(xs.length+ys.length+1)∧Limbs zs∧c<4294967296∧(∀j,i+ys.length≤j→zs.getD j 0=0)∧val zs+4294967296^(i+j)*c=val o0+4294967296^i*xs.getD i 0*val (ys.take j)∧env=[(0,.slice 1 (U .u32 xs) tl),(1,.slice 1 (U .u32 ys) tl2),(5,.mslice (some ⟨b,0,none⟩) (xs.length+ys.length+1) (xs.length+ys.length+1)),(6,.int .i64 (i:Int)),(7,.int .u64 (c:Int)),(8,.int .i64 (j:Int))]∧H1=H.set b (.box 210 (U .u32 zs))∧k=ys.length-j
theorem aeE(xs:List Nat)(tl:Tail)(hx:Limbs xs)(hl:xs.length≤100000)(ys:List Nat)(tl2:Tail)(hy:Limbs ys)(hm:ys.length≤100000):Fn 77 [.slice 1 (U .u32 xs) tl,.slice 1 (U .u32 ys) tl2] (qX (val xs*val ys)):=by
 intro H;refine .of_body func77 rfl ntmps77 results77 rfl ?_;iterate 13 refine AX ?_
 refine .s rfl (yQ (xs.length+ys.length+1) U135 typeInfo210 Z210 V210 (tm rfl) (tm rfl) aA aA aC aA) ?_;rintro _ _ ⟨b16,rfl,hb16,hH⟩;obtain rfl:=hH.symm;iterate 10 refine AX ?_
 refine .loopW (cdM xs ys tl tl2 b16 H) (xs.length) ⟨0,List.replicate _ 0,Nat.zero_le _,by simp,Limbs.rep aA,λj _=>bkC _ _,by rw[alD,fH,val,dO],rfl,rfl,rfl⟩ sX (hRa _) ?_;rintro _ _ _ ⟨i,zs0,hi,hz0,hzl0,h0,hv0,rfl,rfl,hk⟩;iterate 9 refine AX ?_
 refine .cx rfl (λhc20=>?_) (λhc20=>?_)
 ·iterate 12 refine AM ?_
  iterate 4 refine AX ?_
  refine .loopW (brS xs ys tl tl2 b16 i zs0 H) (ys.length) ⟨0,0,zs0,Nat.zero_le _,hz0,hzl0,by omega,h0,by rw[fH,val,dJ,dJ],rfl,rfl,rfl⟩ sX (hRa _) ?_;rintro _ _ _ ⟨j,c,zs,hj,hz,hzl,hc,hzr,hv,rfl,rfl,hk2⟩;iterate 9 refine AX ?_
  refine .cx rfl (λhc26=>?_) (λhc26=>?_)
  ·have hPi:=Limbs.getD hx i;have hQj:=Limbs.getD hy j;have hZ:=Limbs.getD hzl (i+j);have hmf:=bjN hPi hQj hZ hc;iterate 5 refine AX ?_
   refine .draw [(0,true),(1,true),(2,true),(3,true),(4,true),(5,true),(6,true),(7,true),(8,true),(9,true),(10,true),(11,true),(12,true),(13,true),(14,true),(15,true),(19,true),(16,false),(17,true),(18,true),(20,true),(21,true)] rfl aE ?_;iterate 2 refine AX ?_
   refine .p rfl rfl (zV (i) U135 Z210 (tm rfl) (tm rfl) aA aA) ?_;iterate 4 refine AX ?_
   refine .p rfl rfl (zV (j) U135 Z210 (tm rfl) (tm rfl) aA aA) ?_;iterate 2 refine AX ?_
   refine .p rfl rfl (adP (tm rfl) (tm rfl) aA) ?_;iterate 4 refine AX ?_
   refine .p rfl rfl (yG (i+j) U135 Z210 (tm rfl) (tm rfl) aA aA) ?_;refine AX ?_;refine .s rfl rfl (qJ G210 (tm rfl) (oS _ _ _) aA) ?_;rintro _ _ ⟨rfl,hH⟩;obtain rfl:=hH.symm;iterate 15 refine AM ?_
   refine .p rfl (yG (i+j) U135 Z210 (tm rfl) (tm rfl) aA aA) (.e0 (qE Z210 (tm rfl) (tm rfl) (oS _ _ _) aA) ?_);try first|rw[sS]|rw[sU aB]
   iterate 11 refine AM ?_
   iterate 4 refine AX ?_
   have hmm:(xs.getD i 0*ys.getD j 0+zs.getD (i+j) 0+c)%4294967296%2^IntKind.u32.bits=(xs.getD i 0*ys.getD j 0+zs.getD (i+j) 0+c)%4294967296:=bH (bR _ aC);rw[hmm];refine Round.mk ⟨j+1,_,_,by omega,by simpa using hz,Limbs.set hzl (bR _ aC),by omega,λq hq=>apO hzr aA q hq,bjM aA hv,rfl,rfl,rfl⟩ sX (hRa _) aA
  have hj2:j=ys.length:=by omega
  subst hj2;have hcm:c%2^IntKind.u32.bits=c:=bH hc;iterate 13 refine AX ?_
  refine .p rfl (yG (i+ys.length) U135 Z210 (tm rfl) (tm rfl) aA aA) (.e0 (qE Z210 (tm rfl) (tm rfl) (oS _ _ _) aA) ?_);try first|rw[sS]|rw[sU aB]
  iterate 9 refine AX ?_
  rw[hcm];refine Round.mk ⟨i+1,_,by omega,by simpa using hz,Limbs.set hzl hc,λj hj=>apO (n:=i+1+ys.length) (λj hj=>hzr j aA) aA j hj,btZ rfl aA (hzr _ (aZ _)) hv0 hv,rfl,rfl,rfl⟩ sX (hRa _) aA
 iterate 6 refine AX ?_
 have hi2:i=xs.length:=by omega
 subst hi2;rw[cX]at hv0;refine .frzU (t:=5) rfl hb16 aA (aZ _) (by simp only[zQ];omega) ?_;rw[aY aA];have hz5:zs0.length≤1000000:=by omega
 iterate 2 refine AX ?_
 refine .cl rfl C158 (evs1 rfl) (aaO _ _ aB aB _) ?_;iterate 5 refine AX ?_
 refine⟨?_,rfl⟩;rw[←hv0];rfl
theorem ckL{gl s:Nat}(hs:s<32)(hg:gl<4294967296)(h0:gl%2^(s+1)=0):gl|||2^s=gl+2^s∧gl+2^s<4294967296:=by
 obtain⟨q,rfl⟩:=Nat.dvd_of_mod_eq_zero h0;have hlt:2^s<2^(s+1):=eV aC aA;refine⟨by rw[bM];exact akX hlt,?_⟩;have e:(4294967296:Nat)=2^(s+1)*2^(31-s):=by rw[←bI,show s+1+(31-s)=32 by omega]
 rw[e]at hg ⊢;have h1:=Nat.lt_of_mul_lt_mul_left hg;have h2:2^(s+1)*(q+1)≤2^(s+1)*2^(31-s):=bS _ h1;rw[cB,fB]at h2;omega
theorem buP(xs:List Nat)(j:Nat)(hl:Limbs xs):xs.getD j 0=val xs/4294967296^j%4294967296:=by
 induction xs generalizing j with
 |nil=>simp[val]
 |cons x xs ih=>
  obtain⟨h1,h2⟩:=hl.cons;cases j with
  |zero=>rw[eA,gI,val,dW,bH h1];rfl
  |succ j=>
   rw[dF,ih j h2,bP,bM (4294967296^j),←cC,val,fR _ _ aC,cD h1,bZ]
theorem caR(hz:Limbs zs)(h:val zs=2^(i+1)*Q):zs.getD (i/32) 0%2^(i%32+1)=0:=by
 rw[buP zs _ hz,h];have e:(4294967296:Nat)=2^32:=by decide
 rw[e,←dV];have h32:i%32<32:=bR _ aC;have hi:i=32*(i/32)+i%32:=(cM i 32).symm;generalize i/32=a at *;generalize i%32=r at *;subst hi;rw[fA,bI,bJ,Nat.mul_div_cancel_left _ (bL aC)];rw[Nat.mod_mod_of_dvd _ (Nat.pow_dvd_pow 2 (by omega:r+1≤32))];exact Nat.mul_mod_right _ _
theorem btC(_:Limbs zs)(hl:i/32<zs.length)(h:val zs=2^(i+1)*Q):val (zs.set (i/32) (zs.getD (i/32) 0+2^(i%32)))=2^i*(2*Q+1):=by
 have e:=awX (zs:=zs) (i:=i/32) (v:=zs.getD (i/32) 0+2^(i%32)) hl;have e2:(4294967296:Nat)^(i/32)*2^(i%32)=2^i:=by
  rw[show(4294967296:Nat)=2^32 by decide,←dV,←bI,cM]
 rw[cB,e2]at e;have e3:2^i*(2*Q+1)=2^(i+1)*Q+2^i:=by rw[cB,bP,fB,bJ]
 omega
theorem avQ(h:a/2^(j+1)=Q*b+r):a/2^j=2*Q*b+(2*r+a/2^j%2):=by
 have h1:a/2^(j+1)=a/2^j/2:=by rw[bP,cC]
 rw[h1]at h;have h2:=cM (a/2^j) 2;rw[h,cB,←bJ]at h2;omega
theorem bcB(hy:Limbs ys)(h:n<2*val ys):(zF n).length≤ys.length+1:=by
 rw[qH,bP];have:=aeO hy;omega
def PartsOK(a b:Nat)(zs:List Nat)(r j:Nat):Prop:=∃Q,a/2^j=Q*b+r∧r<b∧val zs=2^j*Q
theorem PartsOK.lt(h:PartsOK a b zs r j):r<b:=by obtain⟨_,_,h,_⟩:=h;exact h
theorem PartsOK.stay(h:PartsOK a b zs r (j+1))(hb:2*r+a/2^j%2<b):PartsOK a b zs (2*r+a/2^j%2) j:=by
 obtain⟨Q,h1,h2,h3⟩:=h;exact⟨2*Q,avQ h1,hb,by rw[h3,bP,bJ]⟩
theorem PartsOK.take(h:PartsOK a b zs r (j+1))(hz:Limbs zs)(hl:j/32<zs.length)(hb:b≤2*r+a/2^j%2):PartsOK a b (zs.set (j/32) (zs.getD (j/32) 0+2^(j%32))) (2*r+a/2^j%2-b) j:=by
 obtain⟨Q,h1,h2,h3⟩:=h;refine⟨2*Q+1,?_,?_,btC hz hl h3⟩
 ·have e:=avQ h1;rw[bY,cQ];omega
 have:=bR (a/2^j) (by decide:0<2);omega
theorem PartsOK.low(h:PartsOK a b zs r (j+1))(hz:Limbs zs):zs.getD (j/32) 0|||2^(j%32)=zs.getD (j/32) 0+2^(j%32)∧zs.getD (j/32) 0+2^(j%32)<4294967296:=by
 obtain⟨Q,_,_,h3⟩:=h;exact ckL (bR _ aC) (hz.getD _) (caR hz h3)
theorem PartsOK.done(h:PartsOK a b zs r 0):val zs=a/b∧r=a%b:=by
 obtain⟨Q,h1,h2,h3⟩:=h;rw[eA,gI]at h1;rw[eA,cQ]at h3;rw[h3,h1];exact⟨by rw[fG,Nat.add_mul_div_right _ _ aA,cD h2,bZ],by rw[fG,Nat.add_mul_mod_self_right,bH h2]⟩
theorem PartsOK.begin(hb:0<b)(h:a<2^n)(k:Nat):PartsOK a b (List.replicate k 0) 0 n:=⟨0,by rw[cD h];simp,hb,by rw[alD,dJ]⟩
theorem blI(h:Limbs xs):val xs<2^(32*xs.length):=by
 have:=aeO h
 rwa[show(4294967296:Nat)=2^32 by decide,←dV]at this
theorem bgJ(hy:Limbs ys)(h:r<val ys):(zF r).length≤ys.length:=by
 rw[qH];exact eG h (aeO hy)
theorem brM{s:Nat}(h:s<32):1*2^s<4294967296:=by
 rw[cQ];exact eV aC h
theorem ciX:(decide (((v%2:Nat):Int)=1)).toNat=v%2:=by
 by_cases h:v%2=1
 ·rw[h];rfl
 rw[show v%2=0 by omega];rfl
theorem bwN:0≤azE a b↔b≤a:=by unfold azE;split<;>(try split)<;>omega
def biK(xs ys:List Nat)(tl tl2:Tail)(b:Nat)(H:Heap):Nat→Env→Heap→Prop:=λk env H1=>∃(j r:Nat)(zs:List Nat),j≤32*xs.length∧zs.length=xs.length∧Limbs zs∧PartsOK (val xs) (val ys) zs r j∧env=[(0,.slice 1 (U .u32 xs) tl),(1,.slice 1 (U .u32 ys) tl2),(6,.mslice (some ⟨b,0,none⟩) xs.length xs.length),(7,qX r),(8,.int .i64 ((j:Int)-1))]∧H1=H.set b (.box 210 (U .u32 zs))∧k=j
theorem aoX(xs:List Nat)(tl:Tail)(hx:Limbs xs)(hl:xs.length≤100000)(ys:List Nat)(tl2:Tail)(hy:Limbs ys)(hm:ys.length≤50000)(hb:0<val ys):Fn 80 [.slice 1 (U .u32 xs) tl,.slice 1 (U .u32 ys) tl2] (.tuple [qX (val xs/val ys),qX (val xs%val ys)]):=by
 intro H;refine .of_body func80 rfl ntmps80 results80 rfl ?_;iterate 10 refine AM ?_
 refine .s rfl (yQ (xs.length) U135 typeInfo210 Z210 V210 (tm rfl) (tm rfl) aA aA aC aA) ?_;rintro _ _ ⟨b11,rfl,hb11,hH⟩;obtain rfl:=hH.symm;iterate 19 refine AM ?_
 refine .loopW (biK xs ys tl tl2 b11 H) (32*xs.length) ⟨32*xs.length,0,List.replicate xs.length 0,aZ _,by simp,Limbs.rep aA,.begin hb (blI hx) _,rfl,rfl,rfl⟩ (zK rfl (zK rfl (zK rfl (zK rfl (zR rfl aD yF))))) (hRa _) ?_;rintro _ _ _ ⟨j,r,zs,hj,hzl,hz,hp,rfl,rfl,hk⟩;have hrl:=bgJ hy hp.lt;have hrl2:=bcB (n:=(2*r+val xs/2^(j-1)%2)) hy (by have:=hp.lt;have:=bR (val xs/2^(j-1)) (by decide:0<2);omega);iterate 7 refine AM ?_
 refine .cx rfl (λhc17=>?_) (λhc17=>?_)
 ·have hp1:PartsOK (val xs) (val ys) zs r (j-1+1):=by rw[show j-1+1=j by omega];exact hp
  have hlow:=hp1.low hz;have hs1:=brM (bR (j-1) (by decide:0<32));have hgz:=hz.getD ((j-1)/32);rw[show((j:Int)-1)=((j-1:Nat):Int) by omega];iterate 2 refine AX ?_
  refine .meet (λenv H2=>∃(r2:Nat)(zs2:List Nat),zs2.length=xs.length∧Limbs zs2∧PartsOK (val xs) (val ys) zs2 r2 (j-1)∧env=[(0,.slice 1 (U .u32 xs) tl),(1,.slice 1 (U .u32 ys) tl2),(6,.mslice (some ⟨b11,0,none⟩) xs.length xs.length),(7,qX r2),(8,.int .i64 ((j-1:Nat):Int))]∧H2=H.set b11 (.box 210 (U .u32 zs2))) ?_ ?_
  ·iterate 6 refine AX ?_
   refine .cl rfl C156 (evs2 rfl rfl) (ahF _ _ hx aA (j-1) aA _ aA _) (.cl rfl call159 (evs2 rfl rfl) (aoS (zF r) .shared (zH r) aA _ _) ?_);rw[zN,ciX];iterate 7 refine AX ?_
   refine .cl rfl call160 (evs2 rfl rfl) (bmP (zF (2*r+val xs/2^(j-1)%2)) .shared (zH _) aA _ _ hy aA _) ?_;rw[zN];iterate 3 refine AM ?_
   refine .cx rfl (λhc28=>?_) (λhc28=>?_)
   ·have hge:=bwN.1 hc28;iterate 4 refine AX ?_
    refine .cl rfl call161 (evs2 rfl rfl) (bfA (zF (2*r+val xs/2^(j-1)%2)) .shared (zH _) aA _ _ hy aA (by rw[zN];exact hge) _) ?_;rw[zN];iterate 10 refine AM ?_
    refine .p rfl (yG ((j-1)/32) U135 Z210 (tm rfl) (tm rfl) aA aA) (.e rfl (qJ G210 (tm rfl) (oS _ _ _) aA) ?_);iterate 3 refine AM ?_
    refine .p rfl (arO (yB 1) (tm rfl) aA (by exact brM (bR _ aC))) (.p rfl (bbI (tm rfl) (tm rfl) aB aB) (.p rfl (yG ((j-1)/32) U135 Z210 (tm rfl) (tm rfl) aA aA) (.e0 (qE Z210 (tm rfl) (tm rfl) (oS _ _ _) aA) ?_)));try first|rw[sS]|rw[sU aB]
    iterate 3 refine AX ?_
    refine .mk ⟨_,zs.set ((j-1)/32) (zs.getD ((j-1)/32) 0|||(1*2^((j-1)%32))),by simpa using hzl,by rw[cQ,hlow.1];exact Limbs.set hz hlow.2,by rw[cQ,hlow.1];exact hp1.take hz aA hge,rfl,rfl⟩ sX (hRa _)
   have hlt:(2*r+val xs/2^(j-1)%2)<val ys:=by rcases bX (2*r+val xs/2^(j-1)%2) (val ys)with h|h;exact h;exact absurd (bwN.2 h) aA
   iterate 3 refine AX ?_
   refine .mk ⟨_,zs,hzl,hz,hp1.stay hlt,rfl,rfl⟩ sX (hRa _)
  rintro _ _ ⟨r2,zs2,hzl2,hz2,hp2,rfl,rfl⟩;iterate 6 refine AM ?_
  refine Round.mk ⟨j-1,r2,zs2,by omega,hzl2,hz2,hp2,rfl,rfl,rfl⟩ sX (hRa _) aA
 iterate 6 refine AX ?_
 have hj0:j=0:=by omega
 subst hj0;obtain⟨hq,hrm⟩:=hp.done;refine .frzU (t:=6) rfl hb11 aA (aZ _) (by simp only[zQ];omega) ?_;rw[aY aA];iterate 2 refine AX ?_
 refine .cl rfl C158 (evs1 rfl) (aaO zs .shared hz aA _) ?_;refine AX ?_;refine .cl rfl C158 (evs1 rfl) (aaO (zF r) .shared (zH r) aA _) ?_;rw[zN];iterate 6 refine AX ?_
 refine⟨?_,rfl⟩;rw[←hq,←hrm];rfl
end
section
open Go Go.RowKit
set_option maxRecDepth 100000
def XS(v:Nat)(H H1:Heap)(p:Option Addr)(c:Nat):Prop:=
 (v=0∧H1=H)∨(0<v∧∃b,p=some ⟨b,0,none⟩∧H.objs b=none∧(zF v).length≤c∧c≤maxLen∧H1=H.set b (.box 210 (U .u32 (zF v++List.replicate (c-(zF v).length) 0))))
theorem XS.le{H H1:Heap}{p:Option Addr}(h:XS v H H1 p c):H.le H1:=by
 rcases h with⟨_,rfl⟩|⟨_,b,_,hb,_,_,rfl⟩
 ·exact hRa _
 exact Heap.le_set hb _
theorem XS.live{H H1:Heap}{p:Option Addr}(h:XS v H H1 p c)(u:Nat):XS v (H.live u) (H1.live u) p c:=by
 rcases h with⟨h,rfl⟩|⟨h,b,h1,hb,h2,h3,rfl⟩
 ·exact .inl ⟨h,rfl⟩
 exact .inr ⟨h,b,h1,hb,h2,h3,rfl⟩
theorem bgS{g:G}{sz:Nat}{tl:Tail}{v:Value}(h:RelV g (.slice sz [] tl) v):∃p c,v= .slice p 0 c:=by
 cases h with
 |nilSlice=>exact⟨none,0,rfl⟩
 |voidSlice sz a=>exact⟨_,_,rfl⟩
 |slice sz xs tl b off cap vs hsz hi hr hlen hcap htl=>exact⟨_,cap,rfl⟩
theorem ajY(h:0<n):0<(zF n).length:=by rw[qV h];simp
theorem ccM(h:∀x,x∈l→x<256):U .u8 l=(l.map UInt8.ofNat).map bv:=by
 unfold U;rw[List.map_map];apply List.map_congr_left;intro x hx;have:=h x hx;simp only[Function.comp,bv,gB];rw[bH aA]
theorem bbF(xs:List Nat)(tl:Tail)(hx:Limbs xs)(hl:xs.length≤1000000)(hv:0<val xs)(H:Heap):ACall prog 158 [.slice 1 (U .u32 xs) tl] H (λy H'=>∃p c,y= .mslice p (zF (val xs)).length c∧XS (val xs) H H' p c):=by
 refine .of_body func158 rfl ntmps158 results158 rfl ?_;iterate 14 refine AX ?_
 refine .loopW (axL xs tl H) (xs.length) ⟨xs.length,aZ _,by rw[cX],rfl,rfl,rfl⟩ sX (hRa _) ?_;rintro _ _ _ ⟨n,hn,hr,rfl,rfl,hk⟩;refine AX ?_;refine .seqTo 15 (.bool (decide (0<(n:Int))&&decide (((xs.getD (n-1) 0:Nat):Int)=0))) [0,3] ?_ ?_
 ·iterate 4 refine AX ?_
  refine zD (t:=8) rfl (λhg8=>?_) (λhg8=>?_)
  ·have hh8:=hg8;try simp only[aT]at hh8
   iterate 3 refine AX ?_
   refine .gp rfl rfl rfl aB (zV (n-1) U135 Z210 (tm rfl) (tm rfl) aA aA) ?_;iterate 4 refine AM ?_
   exact⟨rfl,zS rfl aI sX,rfl⟩
  have hh8:=hg8;try simp only[aR,cU]at hh8
  iterate 8 refine AX ?_
  exact⟨rfl,zS rfl aI sX,rfl⟩
 refine .sub [(15,_),(0,_),(3,_)] sX ?_;refine .cx rfl (λhc15=>?_) (λhc15=>?_)
 ·simp only[bN,aT]at hc15;iterate 10 refine AX ?_
  have hs:=acC (xs:=xs) (k:=n-1) aA;rw[show n-1+1=n by omega,aK]at hs;refine Round.mk ⟨n-1,by omega,by rw[←hs,hr],rfl,rfl,rfl⟩ (zK rfl (zR rfl (by rw[show((n:Int)-1)=((n-1:Nat):Int) by omega]) yF)) (hRa _) aA
 simp only[cJ,aR]at hc15;have hq:n=qG xs:=by
  rcases bF n with h0|h0
  ·subst h0;rw[←hr];rfl
  have hs:=acC (xs:=xs) (k:=n-1) aA;rw[show n-1+1=n by omega,aJ,hr]at hs;exact hs.symm
 have hxt:=adJ hx;rw[←hq]at hxt;have hnz:=ajY hv;iterate 7 refine AX ?_
 refine .e rfl (awZ U135 Z210 V210) ?_;iterate 2 refine AX ?_
 refine .p rfl (adE (_) U135 Z210 (tm rfl) (tm rfl) rfl aA) ?_;refine .s rfl (baG (ys:=xs.take n) U135 U135 Z210 typeInfo210 V210 aC (tm rfl) (tm rfl) (by show _*4≤_;simp only[aV];omega) (by rw[hxt];exact hnz)) ?_;rintro _ _ ⟨b22,c22,rfl,hb22,hc1,hc2,hH⟩;obtain rfl:=hH.symm;rw[hxt]at hc1;rw[hxt];iterate 5 refine AX ?_
 exact⟨_,c22,rfl,.inr ⟨hv,b22,rfl,hb22,hc1,hc2,rfl⟩⟩
theorem aoT(xs:List Nat)(tl:Tail)(hx:Limbs xs)(hl:xs.length≤1000000)(H:Heap):ACall prog 158 [.slice 1 (U .u32 xs) tl] H (λy H'=>∃p c,y= .mslice p (zF (val xs)).length c∧XS (val xs) H H' p c):=by
 rcases bF (val xs)with h|h
 ·have hc:=aaO xs tl hx hl H;intro g vs w hr s;refine(hc g vs w hr s).mono ?_;rintro e w' ⟨v,rfl,g',y,H',hle,hv,s',rfl,rfl⟩;rw[h]at hv;obtain⟨p,c,rfl⟩:=bgS hv;refine⟨_,rfl,g',.mslice p 0 c,_,hle,.mslice _ _ _,s',p,c,?_,.inl ⟨h,rfl⟩⟩;rw[h];rfl
 exact bbF xs tl hx hl h H
theorem bwC(hv:0<v)(h:dec a=(if v=0 then []else dec v)++(l.map UInt8.ofNat).reverse):dec a=(if v/10=0 then []else dec (v/10))++((l++[48+v%10]).map UInt8.ofNat).reverse:=by
 rw[h,aJ,eS,List.reverse_append];by_cases h10:v<10
 ·rw[akZ h10,aK,bH h10];rfl
 rw[anE aA,aJ,bK];rfl
theorem bwV{m:Int}(c:Nat)(hm:m=(c:Int)):U .u8 zs++[.int .u8 m]=U .u8 (zs++[c]):=by
 subst hm;rw[←azJ];rfl
theorem cmC(h:r<10):r*2^32<18446744073709551616:=by rw[auJ];omega
theorem byB{ws ts:List Nat}(h:ws.length=n):(ws++ts).take n=ws:=by subst h;exact List.take_left
theorem bkE{ws ts:List Nat}{k:Nat}(h:k<ws.length):(ws++ts).getD k 0=ws.getD k 0:=by
 rw[aP,aP,cV h]
theorem caV(H:Heap)(b t u:Nat)(o:AObj):((H.set b o).kill t).live u=((H.kill t).live u).set b o:=rfl
theorem bzD(h:j<l.length):(l.drop (j+1)).reverse++[l.getD j 0]=(l.drop j).reverse:=by
 rw[cL h,List.reverse_cons,aP,aX h];rfl
def cdW(a:Nat)(H:Heap):Nat→Env→Heap→Prop:=λk env H1=>∃(v:Nat)(p:Option Addr)(c t:Nat)(l:List Nat)(Hb:Heap),v<BIG∧(∀x,x∈l→x<256)∧dec a=(if v=0 then []else dec v)++(l.map UInt8.ofNat).reverse∧XS v Hb H1 p c∧H.le Hb∧Hb.toks t=true∧H.toks t=false∧env=[(3,.mslice p (zF v).length c),(4,.slice 1 (U .u8 l) (.own t))]∧k=v
def bsK(v b c t:Nat)(l:List Nat)(ts:List Nat)(Hb:Heap):Nat→Env→Heap→Prop:=λk env H1=>∃(j r:Nat)(ws:List Nat),j≤(zF v).length∧ws.length=(zF v).length∧Limbs ws∧r<10∧(∀q,q<j→ws.getD q 0=(zF v).getD q 0)∧val (ws.drop j)*10+r=val ((zF v).drop j)∧env=[(3,.mslice (some ⟨b,0,none⟩) (zF v).length c),(4,.slice 1 (U .u8 l) (.own t)),(5,.int .u64 (r:Int)),(6,.int .i64 ((j:Int)-1))]∧H1=Hb.set b (.box 210 (U .u32 (ws++ts)))∧k=j
def cdQ(l:List Nat)(tl:Tail)(H:Heap):Nat→Env→Heap→Prop:=λk env H1=>∃(j t:Nat),j≤l.length∧env=[(4,.slice 1 (U .u8 l) tl),(8,.slice 1 (U .u8 (l.drop j).reverse) (.own t)),(9,.int .i64 ((j:Int)-1))]∧H.le H1∧H1.toks t=true∧H.toks t=false∧k=j
theorem amE(xs:List Nat)(tl:Tail)(hx:Limbs xs)(hl:xs.length≤1000000)(hB:val xs<BIG)(H:Heap):ACall prog 126 [.slice 1 (U .u32 xs) tl] H (λy H'=>y= .str (dec (val xs))∧H'=H):=by
 have hle0:=hRa H;have hdl:=asV hB;refine ACall.of_body func126 rfl ntmps126 results126 rfl ?_;iterate 8 refine AX ?_
 refine .s rfl (zB C158 (evs1 rfl) (aoT xs tl hx hl _)) ?_;rintro _ H2 ⟨p2,c2,rfl,hxs2⟩;have hle2:=hxs2.le;iterate 11 refine AM ?_
 refine AWP.cx rfl (λhc14=>?_) (λhc14=>?_)
 ·iterate 7 refine AX ?_
  refine Ret.go (.cons (.tmp _ _ rfl) .nil) _ (hle2) ?_;refine⟨?_,rfl⟩;have h0:val xs=0:=by
   rcases bF (val xs)with h|h
   ·exact h
   have:=ajY h;omega
  rw[h0];rfl
 have hpos:0<val xs:=by
  rcases bF (val xs)with h|h
  ·rw[h]at hc14;exact absurd rfl hc14
  exact h
 iterate 9 refine AX ?_
 refine AWP.tag (t:=4) rfl (λu4 hu4=>?_);have hfu4:=Heap.fresh_of hle2 hu4;have hleu4:=Heap.le_in hle2 u4;refine AWP.loopW (cdW (val xs) H) (val xs) ⟨val xs,p2,c2,u4,[],H.live u4,hB,by simp,by rw[aJ];simp,hxs2.live u4,Heap.le_live _ _,Heap.toks_live_same _ _,hfu4,rfl,rfl⟩ sX (hRa _) ?_;rintro _ _ H1 ⟨v,p,c,t,l,Hb,hvB,hl8,hd,hxs,hlb,hlive,hfr,rfl,hk⟩;have hll:l.length≤2500:=by have:=congrArg List.length hd;rw[aO,fJ,cE]at this;omega
 iterate 8 refine AM ?_
 refine AWP.cx rfl (λhc17=>?_) (λhc17=>?_)
 ·have hvp:0<v:=by
   rcases bF v with h|h
   ·rw[h]at hc17;exact absurd hc17 aC
   exact h
  obtain⟨_,b,rfl,hb,hcl,hcm,rfl⟩:=hxs.resolve_left (by rintro⟨h,_⟩;omega);have hlv:=yM hvB;generalize hts:List.replicate (c-(zF v).length) 0=ts;iterate 18 refine AM ?_
  refine AWP.loopW (bsK v b c t l ts Hb) ((zF v).length) ⟨(zF v).length,0,zF v,aZ _,rfl,zH _,by decide,λ_ _=>rfl,by simp[val],rfl,rfl,rfl⟩ sX (hRa _) ?_;rintro _ _ _ ⟨j,r,ws,hj,hwl,hwL,hr,hgs,hv,rfl,rfl,hk2⟩;iterate 7 refine AM ?_
  refine AWP.cx rfl (λhc22=>?_) (λhc22=>?_)
  ·have hgv:=Limbs.getD (zH v) (j-1);have hgw:=hwL.getD (j-1);have hts8:=hgs (j-1) aA;have hta:=bkE (ts:=ts) (by omega:j-1<ws.length);have hv1:val (ws.drop (j-1+1))*10+r=val ((zF v).drop (j-1+1)):=by rw[show j-1+1=j by omega];exact hv
   obtain⟨hf1,hf2⟩:=auV hr hgv (by decide:(10:Nat)<4294967296);iterate 7 refine AX ?_
   refine .p rfl (qZ (tm rfl) (yB 32) aA (by exact cmC hr)) ?_;iterate 2 refine AX ?_
   refine .p rfl (yG (j-1) U135 Z210 (tm rfl) (tm rfl) aA aA) (.e rfl (qJ G210 (tm rfl) (oS _ _ _) (by(rw[aO];omega))) ?_);iterate 6 refine AX ?_
   rw[bkE (by omega:j-1<ws.length),hgs (j-1) aA,auJ];iterate 4 refine AX ?_
   refine .p rfl (anW (tm rfl) (yB 10) aB aA) ?_;refine AX ?_;refine .p rfl (yG (j-1) U135 Z210 (tm rfl) (tm rfl) aA aA) (.e0 (qE Z210 (tm rfl) (tm rfl) (oS _ _ _) (by(rw[aO];omega))) ?_);try first|rw[sS]|rw[sU aB]
   iterate 15 refine AM ?_
   rw[List.set_append_left _ _ aA,bH (show _<2^IntKind.u32.bits from hf1)];refine Round.mk (J:=bsK v b c t l ts Hb) ⟨j-1,_,_,by omega,by simpa using hwl,Limbs.set hwL hf1,bR _ aC,λq hq=>by rw[getD_set_ne aA];exact hgs q aA,auU aC aA hwl (hgs _ aA) hv1,rfl,rfl,rfl⟩ (zK rfl (zK rfl (zK rfl (zR rfl (by congr 1;omega) yF)))) (hRa _) aA
  have hj0:j=0:=by omega
  subst hj0;rw[dL,dL,zN]at hv;have hwv:val ws=v/10:=by omega
  have hrv:r=v%10:=by omega
  iterate 9 refine AX ?_
  refine .p rfl (qF (yB 48) (tm rfl) aA) ?_;refine AX ?_;refine .e rfl (yJ U252 Z5 V5 rfl (tm rfl) (.inl rfl) ⟨rfl,rfl⟩) ?_;refine .s rfl (qT U252 U252 Z5 typeInfo5 V5 rfl aC (tm rfl) (tm rfl) (by exact .own _ (show Heap.toks _ _=true from hlive)) (by show(_+_)*1≤_;simp only[adH,aW,bG];omega) (by repeat' (first|exact zX _|exact qY|exact adD ⟨rfl,rfl⟩ qY|exact qO (zX _)|exact qN (zX _)|refine aaC ?_ ?_ |exact alS _ _)) (by repeat' (first|exact zX _|exact qY|exact adD ⟨rfl,rfl⟩ qY|exact qO (zX _)|exact qN (zX _)|refine aaC ?_ ?_))) ?_;rintro _ _ ⟨t46,ht46,rfl,hH⟩;obtain rfl:=hH.symm;have hf46:=Heap.fresh_of hlb ht46;have hle46:=Heap.le_in (Heap.le_out (t:=t) hlb aB) t46;iterate 3 refine AX ?_
  rw[caV];refine AWP.frzU (t:=3) rfl (show Heap.objs _ _=none from hb) (by simp only[aO];omega) hcl hcm ?_;rw[byB hwl];iterate 2 refine AX ?_
  refine .s rfl (zB C158 (evs1 rfl) (aoT ws .shared hwL aA _)) ?_;rintro _ H3 ⟨p3,c3,rfl,hxs3⟩;iterate 4 refine AX ?_
  refine Round.mk (J:=cdW (val xs) H) ⟨val ws,p3,c3,t46,l++[48+v%10],_,by omega,λx hx=>by rcases cN.1 hx with h|h;exact hl8 x h;rw[eU.1 h];omega,by rw[hwv];exact bwC hvp hd,hxs3,hle46,Heap.toks_live_same _ _,hf46,rfl,rfl⟩ (zK rfl (zR rfl (abB (bwV _ (by rw[hrv];simp only[IntKind.bits];omega))) yF)) (hRa _) aA
 have hv0:v=0:=by
  rcases bF v with h|h
  ·exact h
  have:=ajY h;omega
 subst hv0;obtain⟨_,rfl⟩:=hxs.resolve_right (by rintro⟨h,_⟩;omega);rw[aN rfl,cH]at hd;iterate 15 refine AX ?_
 iterate 5 refine AM ?_
 refine AWP.tag (t:=8) rfl (λu8 hu8=>?_);have hfu8:=Heap.fresh_of hlb hu8;have hleu8:=Heap.le_in hlb u8;refine AWP.loopW (cdQ l (.own t) H) (l.length) ⟨l.length,u8,aZ _,rfl,hleu8,Heap.toks_live_same _ _,hfu8,rfl⟩ (zK rfl (zR rfl (abB (by rw[fL];rfl)) (zK rfl yF))) (hRa _) ?_;rintro _ _ H4 ⟨j,t8,hj,rfl,hle4,hlive4,hfr4,hk4⟩;iterate 7 refine AM ?_
 refine AWP.cx rfl (λhc53=>?_) (λhc53=>?_)
 ·iterate 8 refine AX ?_
  refine .p rfl (zV (j-1) U252 Z5 (tm rfl) (tm rfl) aA aA) ?_;refine AX ?_;refine .e rfl (yJ U252 Z5 V5 rfl (tm rfl) (.inl rfl) ⟨rfl,rfl⟩) ?_;refine .s rfl (qT U252 U252 Z5 typeInfo5 V5 rfl aC (tm rfl) (tm rfl) (by exact .own _ aB) (by show(_+_)*1≤_;simp only[adH,aW,bG,fJ,bO];omega) (by repeat' (first|exact zX _|exact qY|exact adD ⟨rfl,rfl⟩ qY|exact qO (zX _)|exact qN (zX _)|refine aaC ?_ ?_ |exact alS _ _)) (by repeat' (first|exact zX _|exact qY|exact adD ⟨rfl,rfl⟩ qY|exact qO (zX _)|exact qN (zX _)|refine aaC ?_ ?_))) ?_;rintro _ _ ⟨t62,ht62,rfl,hH⟩;obtain rfl:=hH.symm;have hf62:=Heap.fresh_of hle4 ht62;have hle62:=Heap.le_in (Heap.le_out (t:=t8) hle4 aB) t62;iterate 10 refine AM ?_
  refine Round.mk (J:=cdQ l (.own t) H) ⟨j-1,t62,by omega,rfl,hle62,Heap.toks_live_same _ _,hf62,rfl⟩ (zK rfl (zR rfl (abB (by rw[←bzD (l:=l) (j:=j-1) aA,show j-1+1=j by omega];exact bwV _ rfl)) (zR rfl (by congr 1;omega) yF))) (hRa _) aA
 iterate 6 refine AX ?_
 have hj0:j=0:=by omega
 subst hj0;rw[dL,ccM (l:=l.reverse) (λx hx=>hl8 x (by simpa using hx))];iterate 2 refine AX ?_
 refine .e rfl (auO U252 U9 U5 (tm rfl)) ?_;iterate 4 refine AX ?_
 refine Ret.go (.cons (.tmp _ _ rfl) .nil) _ (hle4) ?_;refine⟨?_,rfl⟩;rw[hd,List.map_reverse];rfl
end
section
open Go Go.RowKit
set_option maxRecDepth 100000
theorem cdE(v n:Nat):4294967296^(n/32)*v*2^(n%32)=v*2^n:=by
 have e2:(4294967296:Nat)^(n/32)*2^(n%32)=2^n:=by
  rw[show(4294967296:Nat)=2^32 by decide,←dV,←bI,cM]
 rw[bM _ v,bJ,e2]
theorem bxU(h:v*2^n<BIG)(hi:i<n%32):2*(4294967296^(n/32)*v*2^i)<BIG:=by
 refine bA ?_ h;rw[←cdE v n,bM 2,bJ _ (2^i),←bP];exact bS _ (bB aC hi)
theorem bmO(v:Nat)(hv:v<18446744073709551616):Fn 116 [.int .u64 (v:Int)] (qX v):=by
 intro H;refine .of_body func116 rfl ntmps116 results116 rfl ?_;iterate 8 refine AX ?_
 refine .cl rfl call127 (evs1 rfl) (bsP _ aB _) ?_;iterate 5 refine AX ?_
 exact⟨rfl,rfl⟩
def cjS(xs:List Nat)(tl:Tail)(n:Nat)(H:Heap):Nat→Env→Heap→Prop:=λk env H1=>∃(i:Nat)(zs:List Nat)(tl2:Tail),i≤n%32∧Limbs zs∧zs.length≤20000∧val zs=4294967296^(n/32)*val xs*2^i∧env=[(0,.slice 1 (U .u32 xs) tl),(1,.int .i64 (n:Int)),(5,.slice 1 (U .u32 zs) tl2),(6,.int .i64 (i:Int))]∧H=H1∧k=n%32-i
theorem arJ(xs:List Nat)(tl:Tail)(hx:Limbs xs)(hl:xs.length≤10000)(n:Nat)(hn:n≤100000)(q:Int)(hq:q=(n:Int))(hB:val xs*2^n<BIG):Fn 81 [.slice 1 (U .u32 xs) tl,.int .i64 q] (qX (val xs*2^n)):=by
 intro H;subst hq;refine .of_body func81 rfl ntmps81 results81 rfl ?_;iterate 8 refine AX ?_
 refine AM ?_;refine .s rfl (yQ (n/32) U135 typeInfo210 Z210 V210 (tm rfl) (tm rfl) aA aA aC aA) ?_;rintro _ _ ⟨b9,rfl,hb9,hH⟩;obtain rfl:=hH.symm;iterate 4 refine AX ?_
 refine .frzUF (t:=5) rfl hb9 aF rfl (by simp only[zQ];omega) ?_;rw[aY aF];iterate 3 refine AX ?_
 refine .e rfl (aoL U135 U135 Z210 typeInfo210 V210 rfl aC (tm rfl) (tm rfl) (by show(_+_)*4≤_;simp only[adH,bE];omega) (by repeat' (first|exact zX _|exact qY|exact adD ⟨rfl,rfl⟩ qY|exact qO (zX _)|exact qN (zX _)|refine aaC ?_ ?_ |exact alS _ _)) (by repeat' (first|exact zX _|exact qY|exact adD ⟨rfl,rfl⟩ qY|exact qO (zX _)|exact qN (zX _)|refine aaC ?_ ?_ |exact alS _ _))) ?_;iterate 10 refine AM ?_
 refine .loopW (cjS xs tl n H) (n%32) ⟨0,List.replicate (n/32) 0++xs,.shared,Nat.zero_le _,(Limbs.rep aC).append hx,by simp;omega,by rw[qW,alD,bE];omega,rfl,rfl,rfl⟩ (zK rfl (zK rfl (zR rfl (abB (azJ _ _ _)) (zK rfl yF)))) (hRa _) ?_;rintro _ _ _ ⟨i,zs,tl2,hi,hz,hzl,hv,rfl,rfl,hk⟩;iterate 9 refine AM ?_
 refine .cx rfl (λhc16=>?_) (λhc16=>?_)
 ·iterate 6 refine AX ?_
  refine .cl rfl call159 (.cons (tm rfl) (.cons zT .nil)) (aoS zs tl2 hz aA false _) ?_;have hsm:=yM (bxU hB (show i<n%32 by omega));rw[←hv]at hsm;iterate 10 refine AM ?_
  refine Round.mk ⟨i+1,zF (2*val zs),.shared,by omega,zH _,by omega,by rw[zN,hv,bP,bM 2,bJ],rfl,rfl,rfl⟩ sX (hRa _) aA
 iterate 8 refine AX ?_
 refine .cl rfl C158 (evs1 rfl) (aaO _ _ aB aA _) ?_;iterate 5 refine AX ?_
 refine⟨?_,rfl⟩;have hi2:i=n%32:=by omega
 rw[hv,hi2,cdE];rfl
def biN(n:Nat)(H:Heap):Nat→Env→Heap→Prop:=λk env H1=>∃(i:Nat)(tl:Tail),i≤n∧env=[(0,.int .i64 (n:Int)),(3,.slice 1 (U .u32 (zF (5^i))) tl),(4,.int .i64 (i:Int))]∧H=H1∧k=n-i
theorem baX(n:Nat)(hn:n≤100000)(q:Int)(hq:q=(n:Int))(hB:5^n<BIG)(H:Heap):ACall prog 205 [.int .i64 q] H (λy H'=>y=qX (5^n)∧H'=H):=by
 subst hq;refine ACall.of_body func205 rfl ntmps205 results205 rfl ?_;iterate 7 refine AX ?_
 refine .e rfl (yJ U135 Z210 V210 rfl (yB 1) (.inl rfl) ⟨rfl,rfl⟩) ?_;iterate 10 refine AM ?_
 refine AWP.loopW (biN n H) (n) ⟨0,.full,Nat.zero_le _,rfl,rfl,rfl⟩ (zK rfl (zR rfl (abB rfl) (zK rfl yF))) (hRa _) ?_;rintro _ _ _ ⟨i,tl,hi,rfl,rfl,hk⟩;have hl:=yM (n:=5^i) (bA (bB aC hi) hB);iterate 8 refine AX ?_
 refine AWP.cx rfl (λhc8=>?_) (λhc8=>?_)
 ·iterate 6 refine AX ?_
  refine .e rfl (yJ U135 Z210 V210 rfl (yB 5) (.inl rfl) ⟨rfl,rfl⟩) (.cl rfl C77 (evs2 rfl rfl) (aeE (zF (5^i)) tl (zH _) aA [5] .full (Limbs.mk aC Limbs.nil) aC _) ?_);rw[zN,show val [5]=5 from rfl,←bP];iterate 10 refine AM ?_
  refine Round.mk (J:=biN n H) ⟨i+1,.shared,by omega,rfl,rfl,rfl⟩ sX (hRa _) aA
 iterate 12 refine AX ?_
 refine Ret.go (.cons (.weak _ _ _ rfl (.slice _ _ _)) .nil) _ (hRa _) ?_;refine⟨?_,rfl⟩;rw[show i=n by omega];rfl
def cdN(n:Nat)(H:Heap):Nat→Env→Heap→Prop:=λk env H1=>∃(i:Nat)(tl:Tail),i≤n∧env=[(0,.int .i64 (n:Int)),(3,.slice 1 (U .u32 (zF (10^i))) tl),(4,.int .i64 (i:Int))]∧H=H1∧k=n-i
theorem avA(n:Nat)(hn:n≤100000)(q:Int)(hq:q=(n:Int))(hB:10^n<BIG)(H:Heap):ACall prog 78 [.int .i64 q] H (λy H'=>y=qX (10^n)∧H'=H):=by
 subst hq;refine ACall.of_body func78 rfl ntmps78 results78 rfl ?_;refine .sr ?_;refine .p rfl (zE (aeH (sz:=1) (tl:=.full))) ?_;refine .nr (.e rfl (yJ U135 Z210 V210 rfl (yB 1) (.inl rfl) ⟨rfl,rfl⟩) (.as rfl rfl (.ng (.seq (.sr (.p rfl (zE (yB 0)) (.ng (.block ?_))))))));refine AWP.loopW (cdN n H) (n) ⟨0,.full,Nat.zero_le _,rfl,rfl,rfl⟩ (zK rfl (zR rfl (abB rfl) (zK rfl yF))) (hRa _) ?_;rintro _ _ _ ⟨i,tl,hi,rfl,rfl,hk⟩;have hl:=yM (n:=10^i) (bA (bB aC hi) hB);refine .seq (.sr (.mv rfl rfl (.mv rfl rfl (.p rfl (aaH (tm rfl) (tm rfl)) (.ng ?_)))));refine AWP.cond (tm rfl) (λhc8=>?_) (λhc8=>?_)
 ·try simp only[aT]at hc8
  refine .skip ?_;refine Next.go ?_;refine .seq (.block (.region (.mv rfl rfl (.e rfl (yJ U135 Z210 V210 rfl (yB 10) (.inl rfl) ⟨rfl,rfl⟩) (.cl rfl C77 (evs2 rfl rfl) (aeE (zF (10^i)) tl (zH _) aA [10] .full (Limbs.mk aC Limbs.nil) aC _) ?_)))));rw[zN,show val [10]=10 from rfl,←bP];refine .as rfl rfl (.nil ?_);refine Block.go ?_;refine Next.go ?_;refine .region (.mv rfl rfl (.p rfl (yZ (tm rfl) (yB 1) aA) (.as rfl rfl (.ng ?_))));refine Round.mk (J:=cdN n H) ⟨i+1,.shared,by omega,rfl,rfl,rfl⟩ (zK rfl (zK rfl (zK rfl yF))) (hRa _) aA
 try simp only[aR,cU]at hc8
 refine .exit ?_;refine Next.ex ?_;refine Next.ex ?_;refine Block.hit ?_;refine Next.go ?_;refine .sr (.mv rfl rfl (.as rfl rfl (.ng (.ret ?_))));refine Ret.go (.cons (.weak _ _ _ rfl (.slice _ _ _)) .nil) _ (hRa _) ?_;refine⟨?_,rfl⟩;rw[show i=n by omega];rfl
end
end Go.Proofs.YteedncdcbgplfaaGreatDoor
