import Derived.Test.YteedncdcbgplfaaGreatDoorN2
namespace Go.Proofs.YteedncdcbgplfaaGreatDoor
open Go.Proofs.Tryz
open Go Go.RowKit
variable{zs:List Nat}{Q a b j r:Nat}
theorem bnS{gl s:Nat}(hs:s<32)(hg:gl<4294967296)(h0:gl%2^(s+1)=0):gl|||2^s=gl+2^s∧gl+2^s<4294967296:=by
 obtain⟨q,rfl⟩:=Nat.dvd_of_mod_eq_zero h0;have hlt:2^s<2^(s+1):=Nat.pow_lt_pow_right aC aA;refine⟨by rw[bL];exact bcU hlt,?_⟩;have e:(4294967296:Nat)=2^(s+1)*2^(31-s):=by rw[←eL,show s+1+(31-s)=32 by omega]
 rw[e]at hg ⊢;have h1:=Nat.lt_of_mul_lt_mul_left hg;have h2:2^(s+1)*(q+1)≤2^(s+1)*2^(31-s):=eJ _ h1;rw[bZ,Nat.mul_one]at h2;omega
theorem blW(xs:List Nat)(j:Nat)(hl:Limbs xs):xs.getD j 0=val xs/4294967296^j%4294967296:=by
 induction xs generalizing j with
 |nil=>simp[val]
 |cons x xs ih=>
  obtain⟨h1,h2⟩:=hl.cons;cases j with
  |zero=>rw[Nat.pow_zero,Nat.div_one,val,cY,bQ h1];rfl
  |succ j=>
   rw[cF,ih j h2,cB,bL (4294967296^j),←Nat.div_div_eq_div_mul,val,Nat.add_mul_div_left _ _ aC,dX h1,cA]
theorem bhH{i:Nat}(hz:Limbs zs)(h:val zs=2^(i+1)*Q):zs.getD (i/32) 0%2^(i%32+1)=0:=by
 rw[blW zs _ hz,h];have e:(4294967296:Nat)=2^32:=by decide
 rw[e,←Nat.pow_mul];have h32:i%32<32:=cO _ aC;have hi:i=32*(i/32)+i%32:=(dV i 32).symm;generalize i/32=a at *;generalize i%32=r at *;subst hi;rw[dG,eL,bY,Nat.mul_div_cancel_left _ (cK aC)];rw[Nat.mod_mod_of_dvd _ (Nat.pow_dvd_pow 2 (by omega:r+1≤32))];exact Nat.mul_mod_right _ _
theorem bcQ{i:Nat}(hz:Limbs zs)(hl:i/32<zs.length)(h:val zs=2^(i+1)*Q):val (zs.set (i/32) (zs.getD (i/32) 0+2^(i%32)))=2^i*(2*Q+1):=by
 have e:=asT (zs:=zs) (i:=i/32) (v:=zs.getD (i/32) 0+2^(i%32)) hl;have e2:(4294967296:Nat)^(i/32)*2^(i%32)=2^i:=by
  rw[show(4294967296:Nat)=2^32 by decide,←Nat.pow_mul,←eL,dV]
 rw[bZ,e2]at e;have e3:2^i*(2*Q+1)=2^(i+1)*Q+2^i:=by rw[bZ,cB,Nat.mul_one,bY]
 omega
theorem ayK(h:a/2^(j+1)=Q*b+r):a/2^j=2*Q*b+(2*r+a/2^j%2):=by
 have h1:a/2^(j+1)=a/2^j/2:=by rw[cB,Nat.div_div_eq_div_mul]
 rw[h1]at h;have h2:=dV (a/2^j) 2;rw[h,bZ,←bY]at h2;omega
def PartsOK(a b:Nat)(zs:List Nat)(r j:Nat):Prop:=∃Q,a/2^j=Q*b+r∧r<b∧val zs=2^j*Q
theorem PartsOK.lt(h:PartsOK a b zs r j):r<b:=by obtain⟨_,_,h,_⟩:=h;exact h
theorem PartsOK.take(h:PartsOK a b zs r (j+1))(hz:Limbs zs)(hl:j/32<zs.length)(hb:b≤2*r+a/2^j%2):PartsOK a b (zs.set (j/32) (zs.getD (j/32) 0+2^(j%32))) (2*r+a/2^j%2-b) j:=by
 obtain⟨Q,h1,h2,h3⟩:=h;refine⟨2*Q+1,?_,?_,bcQ hz hl h3⟩
 ·have e:=ayK h1;rw[bM,dP];omega
 have:=cO (a/2^j) (by decide:0<2);omega
theorem PartsOK.low(h:PartsOK a b zs r (j+1))(hz:Limbs zs):zs.getD (j/32) 0|||2^(j%32)=zs.getD (j/32) 0+2^(j%32)∧zs.getD (j/32) 0+2^(j%32)<4294967296:=by
 obtain⟨Q,_,_,h3⟩:=h;exact bnS (cO _ aC) (hz.getD _) (bhH hz h3)
theorem PartsOK.done(h:PartsOK a b zs r 0):val zs=a/b∧r=a%b:=by
 obtain⟨Q,h1,h2,h3⟩:=h;rw[Nat.pow_zero,Nat.div_one]at h1;rw[Nat.pow_zero,dP]at h3;rw[h3,h1];exact⟨by rw[Nat.add_comm,Nat.add_mul_div_right _ _ aA,dX h2,cA],by rw[Nat.add_comm,Nat.add_mul_mod_self_right,bQ h2]⟩
theorem PartsOK.begin{n:Nat}(hb:0<b)(h:a<2^n)(k:Nat):PartsOK a b (List.replicate k 0) 0 n:=⟨0,by rw[dX h];simp,hb,by rw[aoI,Nat.mul_zero]⟩
def XS(v:Nat)(H H1:Heap)(p:Option Addr)(c:Nat):Prop:=
 (v=0∧H1=H)∨(0<v∧∃b,p=some ⟨b,0,none⟩∧H.objs b=none∧(zK v).length≤c∧c≤maxLen∧H1=H.set b (.box 210 (U .u32 (zK v++List.replicate (c-(zK v).length) 0))))
theorem XS.le{v:Nat}{H H1:Heap}{p:Option Addr}{c:Nat}(h:XS v H H1 p c):H.le H1:=by
 rcases h with⟨_,rfl⟩|⟨_,b,_,hb,_,_,rfl⟩
 ·exact hRa _
 exact Heap.le_set hb _
theorem XS.live{v:Nat}{H H1:Heap}{p:Option Addr}{c:Nat}(h:XS v H H1 p c)(u:Nat):XS v (H.live u) (H1.live u) p c:=by
 rcases h with⟨h,rfl⟩|⟨h,b,h1,hb,h2,h3,rfl⟩
 ·exact .inl ⟨h,rfl⟩
 exact .inr ⟨h,b,h1,hb,h2,h3,rfl⟩
theorem bhI{n:Nat}(h:0<n):0<(zK n).length:=by rw[aaI h];simp
end Go.Proofs.YteedncdcbgplfaaGreatDoor
