import Derived.Test.YteedncdcbgplfaaGreatDoorN2
set_option maxHeartbeats 1000000
namespace Go.Proofs.YteedncdcbgplfaaGreatDoor
open Go.Proofs.Tryz
variable{qs us vs ws zs:List Nat}{A T V X c d j n r v v1 v2 x y:Nat}
theorem azH(x:Nat):x&&&4294967295=x%4294967296:=dS x 32
def atT(u low br:Nat):Nat:=((u+(18446744073709551616-low%4294967296))%18446744073709551616+(18446744073709551616-br))%18446744073709551616
theorem baA{u low br:Nat}(hu:u<4294967296)(hb:br≤1):atT u low br/9223372036854775808≤1∧u+4294967296*(atT u low br/9223372036854775808)=atT u low br%4294967296+low%4294967296+br:=by
 unfold atT;have:low%4294967296<4294967296:=bR _ aC;generalize low%4294967296=l at *;omega
theorem blO{i br:Nat}(hi:i<ws.length)(_:ws.getD i 0=us.getD i 0)(hu:us.getD i 0<4294967296)(hb:br≤1)
  (h:val (us.take i)+4294967296^i*(c+br)=val (ws.take i)+d*val (vs.take i)):
  val (us.take (i+1))+4294967296^(i+1)*((d*vs.getD i 0/4294967296+(d*vs.getD i 0%4294967296+c)/4294967296)+atT (us.getD i 0) (d*vs.getD i 0%4294967296+c) br/9223372036854775808)
   =val ((ws.set i (atT (us.getD i 0) (d*vs.getD i 0%4294967296+c) br%4294967296)).take (i+1))+d*val (vs.take (i+1)):=by
 obtain⟨_,e⟩:=baA (low:=d*vs.getD i 0%4294967296+c) hu hb;rw[aeB hi,yV us,yV vs,cB d,Nat.mul_left_comm d,bP];generalize atT (us.getD i 0) (d*vs.getD i 0%4294967296+c) br/9223372036854775808=b2 at *;generalize atT (us.getD i 0) (d*vs.getD i 0%4294967296+c) br%4294967296=z at *;generalize us.getD i 0=u at *;generalize d*vs.getD i 0=p at *;generalize d*val (vs.take i)=dv at *;generalize 4294967296^i=B at *;have e2:u+4294967296*(p/4294967296+(p%4294967296+c)/4294967296+b2)=z+p+(c+br):=by omega
 have e3:B*(u+4294967296*(p/4294967296+(p%4294967296+c)/4294967296+b2))=B*(z+p+(c+br)):=by rw[e2]
 rw[cB,cB B,cB B,←bJ]at e3;omega
theorem bdX{p:Nat}(hp:p≤18446744065119617025)(hc:c<4294967296):p/4294967296+(p%4294967296+c)/4294967296<4294967296:=by omega
theorem ayJ(hd:d<4294967296)(hy:y<4294967296):d*y≤18446744065119617025:=by
 have:d*y≤4294967295*4294967295:=eN aA aA;exact this
theorem cbM{U:Nat}(_:0<X)(hU:U<(T+1)*X)(hV:v1*X≤V)(h1:0<v1):U/V≤T/v1:=by
 rw[eB h1];have h2:U/V*V≤U:=eZ U V;have h3:U/V*(v1*X)≤U/V*V:=bS _ hV;have h4:U/V*v1*X<(T+1)*X:=by rw[bJ];omega
 have h5:=eF h4;omega
theorem boF{U u2:Nat}(_:0<X)(ht:d*v1+r=T)(hU:U<((T*4294967296+u2)+1)*X)(hV:(v1*4294967296+v2)*X≤V)(hx:r*4294967296+u2<d*v2):U/V<d:=by
 have h2:U/V*V≤U:=eZ U V;have h3:U/V*((v1*4294967296+v2)*X)≤U/V*V:=bS _ hV;have h4:U/V*(v1*4294967296+v2)*X<((T*4294967296+u2)+1)*X:=by rw[bJ];omega
 have h5:=eF h4;have h6:T*4294967296+u2<d*(v1*4294967296+v2):=by
  rw[←ht,bY,cB,bJ];omega
 have h7:U/V*(v1*4294967296+v2)<d*(v1*4294967296+v2):=by omega
 exact eF h7
theorem bvE{U u2:Nat}(hX:0<X)(hd:d<4294967296)(hv1:2147483648≤v1)(ht:d*v1+r=T)(hU:(T*4294967296+u2)*X≤U)(hV:V<((v1*4294967296+v2)+1)*X)(hV2:(v1*4294967296+v2)*X≤V)(hx:d*v2≤r*4294967296+u2):d≤U/V+1:=by
 have h1:d*(v1*4294967296+v2)≤T*4294967296+u2:=by
  rw[←ht,bY,cB,bJ];omega
 have h2:d*(v1*4294967296+v2)*X≤U:=bC (bD _ h1) hU;have h3:d*V≤d*(((v1*4294967296+v2)+1)*X):=bS _ aA;have h4:d*(((v1*4294967296+v2)+1)*X)=d*(v1*4294967296+v2)*X+d*X:=by
  rw[bY,cB,cQ,bJ]
 have h5:d*X≤V:=by
  have:d*X≤(v1*4294967296+v2)*X:=bD _ aA;omega
 have hV0:0<V:=by
  have:0<(v1*4294967296+v2)*X:=gS aA hX;omega
 have h6:d*V≤U+V:=by omega
 have h7:(d-1)*V≤U:=by rw[Nat.sub_mul,cQ];omega
 have h8:=(eB hV0).2 h7;omega
theorem bqZ{U w b2 N:Nat}(hV:0<V)(hw:w<N)(hd1:U/V≤d)(hd2:d≤U/V+1)(hU:U<N)(h:U+N*b2=w+d*V)(hb:b2≤1):
  (b2=0→d=U/V∧w=U%V)∧(b2=1→d=U/V+1∧(w+V)%N=U%V):=by
 have e:=cM U V;have hm:=bR U hV;rw[bM]at e;generalize U/V=q at *;generalize U%V=m at *;rcases bX d (q+1)with h1|h1
 ·grind
 have:d=q+1:=by omega
 subst this;rw[bY,cQ]at h;refine⟨λh0=>?_,λh0=>⟨rfl,?_⟩⟩
 ·grind
 subst h0;have:w+V=m+N:=by omega
 rw[this,Nat.add_mod_right,bH aA]
section
open Go Go.RowKit
set_option maxRecDepth 100000
def bqY(vs:List Nat)(tl:Tail)(b o n cp d:Nat)(zs:List Nat)(H:Heap):Nat→Env→Heap→Prop:=λk env H1=>∃(i c br:Nat)(ws:List Nat),i≤n∧ws.length=n∧Limbs ws∧c<4294967296∧br≤1∧(∀j,i≤j→ws.getD j 0=((zs.drop o).take n).getD j 0)∧val (((zs.drop o).take n).take i)+4294967296^i*(c+br)=val (ws.take i)+d*val (vs.take i)∧(vs.length<i→c=0)∧env=[(0,.mslice (some ⟨b,o,none⟩) n cp),(1,.slice 1 (U .u32 vs) tl),(2,.int .u64 (d:Int)),(7,.int .u64 (c:Int)),(8,.int .u64 (br:Int)),(14,.int .i64 (n:Int)),(15,.int .i64 (i:Int))]∧H1=H.set b (.box 210 (U .u32 (mid zs o ws)))∧k=n-i
theorem bdY(vs:List Nat)(tl:Tail)(hv:Limbs vs)(hl:vs.length≤1000000)(b o n cp d:Nat)(hd:d<4294967296)(hvn:vs.length<n)(zs:List Nat)(hz:Limbs zs)(hn:o+n≤zs.length)(hn2:n≤1000000)(H:Heap)(hb:H.objs b=some (.box 210 (U .u32 zs))):ACall prog 324 [.mslice (some ⟨b,o,none⟩) n cp,.slice 1 (U .u32 vs) tl,.int .u64 (d:Int)] H (λy H'=>∃(b2:Nat)(ws:List Nat),b2≤1∧ws.length=n∧Limbs ws∧val ((zs.drop o).take n)+4294967296^n*b2=val ws+d*val vs∧y= .bool (decide (0<b2))∧H'=H.set b (.box 210 (U .u32 (mid zs o ws)))):=by
 refine .of_body func324 rfl ntmps324 results324 rfl ?_;iterate 16 refine AM ?_
 iterate 4 refine AX ?_
 refine .loopW (bqY vs tl b o n cp d zs H) (n) ⟨0,0,0,((zs.drop o).take n),Nat.zero_le _,by simp;omega,(hz.drop _).take _,by omega,by omega,λj _=>rfl,by simp[val],λh=>rfl,rfl,(Heap.set_self (by rw[apR hn];exact hb)).symm,rfl⟩ sX (hRa _) ?_;rintro _ _ _ ⟨i,c,br,ws,hi,hw,hwl,hc,hbr,hg,hval,hc0,rfl,rfl,hk⟩;iterate 6 refine AX ?_
 refine .cx rfl (λhc16=>?_) (λhc16=>?_)
 ·have hy:=Limbs.getD hv i;have hdy:=ayJ hd hy;have hal:=azH (d*vs.getD i 0);have hal2:=azH (d*vs.getD i 0%4294967296+c);have hcc:=bdX hdy hc;have hu:=Limbs.getD ((hz.drop o).take n) i;have hml:=afV (o:=o) hw hn;have hgi:=hg i (aZ i);have hgm:=(bgC (zs:=zs) (o:=o) (i:=i) aA (by omega:i<ws.length)).trans hgi;have hgz:=Limbs.getD (aeF (o:=o) hz hwl) (o+i);obtain⟨hx1,hx2⟩:=baA (low:=(d*vs.getD i 0%4294967296+c)) hu hbr;have hst:=blO (by omega:i<ws.length) hgi hu hbr hval;have hX:atT (((zs.drop o).take n).getD i 0) (d*vs.getD i 0%4294967296+c) br<18446744073709551616:=bR _ aC;iterate 15 refine AM ?_
  refine .seqToL [(10,.int .u64 ((d*vs.getD i 0:Nat):Int))] [0,1,2,7,8,14,15,9] ?_ ?_
  ·iterate 8 refine AX ?_
   refine .cx rfl (λhc21=>?_) (λhc21=>?_)
   ·iterate 4 refine AX ?_
    refine .p rfl (zV (i) U159 Z210 (tm rfl) (tm rfl) aA aA) ?_;iterate 5 refine AX ?_
    exact⟨rfl,(zR rfl aD sX),rfl⟩
   refine AX ?_;exact⟨rfl,(zR rfl (by(rw[aeX aA,dJ])) sX),rfl⟩
  refine .sub [(10,_),(0,_),(1,_),(2,_),(7,_),(8,_),(14,_),(15,_),(9,_)] sX ?_;refine .seqToL [(11,.int .u64 (((d*vs.getD i 0%4294967296+c):Nat):Int))] [10,0,1,2,7,8,14,15,9] ?_ ?_
  ·iterate 7 refine AM ?_
   exact⟨rfl,(zR rfl (by rw[azH]) sX),rfl⟩
  refine .sub [(11,_),(10,_),(0,_),(1,_),(2,_),(7,_),(8,_),(14,_),(15,_),(9,_)] sX ?_;refine .seqToL [(7,.int .u64 ((d*vs.getD i 0/4294967296+(d*vs.getD i 0%4294967296+c)/4294967296:Nat):Int))] [11,0,1,2,8,14,15,9] ?_ ?_
  ·iterate 8 refine AM ?_
   exact⟨rfl,(zR rfl aD sX),rfl⟩
  refine .sub [(7,_),(11,_),(0,_),(1,_),(2,_),(8,_),(14,_),(15,_),(9,_)] sX ?_;refine .seqToL [(12,.int .u64 ((atT (((zs.drop o).take n).getD i 0) (d*vs.getD i 0%4294967296+c) br:Nat):Int))] [7,0,1,2,8,14,15,9] ?_ ?_
  ·iterate 3 refine AX ?_
   refine .p rfl (abU (i) U159 Z210 (tm rfl) (tm rfl) aA aA) (.e rfl (qJ G210 (tm rfl) (oS _ _ _) aA) ?_);iterate 3 refine AM ?_
   refine .p rfl (arM (tm rfl) (tm rfl) aA) ?_;refine AX ?_;refine .p rfl (arM (tm rfl) (tm rfl) aA) ?_;iterate 2 refine AX ?_
   exact⟨rfl,(zR rfl (by rw[hgm,azH];rfl) sX),rfl⟩
  refine .sub [(12,_),(7,_),(0,_),(1,_),(2,_),(8,_),(14,_),(15,_),(9,_)] sX ?_;iterate 7 refine AM ?_
  refine .p rfl (abU (i) U159 Z210 (tm rfl) (tm rfl) aA aA) (.e0 (qE Z210 (tm rfl) (tm rfl) (oS _ _ _) aA) ?_);try first|rw[sS]|rw[sU aB]
  iterate 9 refine AX ?_
  refine Round.mk ⟨i+1,_,_,_,by omega,by simpa using hw,Limbs.set hwl (bR _ aC),hcc,hx1,λj hj=>by rw[getD_set_ne aA];exact hg j aA,hst,λh=>by rw[aeX aA,dJ];omega,rfl,by rw[ayN aA aA];rfl,rfl⟩ sX (hRa _) aA
 iterate 14 refine AM ?_
 have hin:i=n:=by omega
 subst hin;rw[hc0 hvn,bZ,aY aG,aY (l:=ws) aA,aY (l:=vs) aA]at hval;exact⟨br,ws,hbr,hw,hwl,hval,by simp[yT],rfl⟩
def bvH(vs:List Nat)(tl:Tail)(b o n cp:Nat)(zs:List Nat)(H:Heap):Nat→Env→Heap→Prop:=λk env H1=>∃(i c:Nat)(ws:List Nat),i≤n∧ws.length=n∧Limbs ws∧c≤1∧(∀j,i≤j→ws.getD j 0=((zs.drop o).take n).getD j 0)∧val (ws.take i)+4294967296^i*c=val (((zs.drop o).take n).take i)+val (vs.take i)∧env=[(0,.mslice (some ⟨b,o,none⟩) n cp),(1,.slice 1 (U .u32 vs) tl),(4,.int .u32 (c:Int)),(8,.int .i64 (n:Int)),(9,.int .i64 (i:Int))]∧H1=H.set b (.box 210 (U .u32 (mid zs o ws)))∧k=n-i
theorem bgO(vs:List Nat)(tl:Tail)(hv:Limbs vs)(_:vs.length≤1000000)(b o n cp:Nat)(hvn:vs.length<n)(zs:List Nat)(hz:Limbs zs)(hn:o+n≤zs.length)(hn2:n≤1000000)(H:Heap)(hb:H.objs b=some (.box 210 (U .u32 zs))):ACall prog 325 [.mslice (some ⟨b,o,none⟩) n cp,.slice 1 (U .u32 vs) tl] H (λ_ H'=>∃(ws:List Nat),ws.length=n∧Limbs ws∧val ws=(val ((zs.drop o).take n)+val vs)%4294967296^n∧H'=H.set b (.box 210 (U .u32 (mid zs o ws)))):=by
 refine ACall.of_body func325 rfl ntmps325 results325 rfl ?_;iterate 9 refine AM ?_
 iterate 4 refine AX ?_
 refine AWP.loopW (bvH vs tl b o n cp zs H) (n) ⟨0,0,((zs.drop o).take n),Nat.zero_le _,by simp;omega,(hz.drop _).take _,by omega,λj _=>rfl,by simp[val],rfl,(Heap.set_self (by rw[apR hn];exact hb)).symm,rfl⟩ sX (hRa _) ?_;rintro _ _ _ ⟨i,c,ws,hi,hw,hwl,hc,hg,hval,rfl,rfl,hk⟩;iterate 6 refine AX ?_
 refine AWP.cx rfl (λhc10=>?_) (λhc10=>?_)
 ·have hy:=Limbs.getD hv i;have hu:=Limbs.getD ((hz.drop o).take n) i;have hml:=afV (o:=o) hw hn;have hgi:=hg i (aZ i);have hgm:=(bgC (zs:=zs) (o:=o) (i:=i) aA (by omega:i<ws.length)).trans hgi;have hgz:=Limbs.getD (aeF (o:=o) hz hwl) (o+i);iterate 15 refine AM ?_
  refine AWP.seqToL [(6,.int .u32 ((vs.getD i 0:Nat):Int))] [0,1,4,8,9,5] ?_ ?_
  ·iterate 8 refine AX ?_
   refine AWP.cx rfl (λhc15=>?_) (λhc15=>?_)
   ·iterate 3 refine AX ?_
    refine .p rfl (zV (i) U159 Z210 (tm rfl) (tm rfl) aA aA) ?_;iterate 3 refine AX ?_
    exact⟨rfl,(zR rfl aD sX),rfl⟩
   refine AX ?_;exact⟨rfl,(zR rfl (by(rw[aeX aA]<;>rfl)) sX),rfl⟩
  refine AWP.sub [(6,_),(0,_),(1,_),(4,_),(8,_),(9,_),(5,_)] sX ?_;iterate 5 refine AX ?_
  refine .p rfl (abU (i) U159 Z210 (tm rfl) (tm rfl) aA aA) (.e rfl (qJ G210 (tm rfl) (oS _ _ _) aA) ?_);iterate 2 refine AX ?_
  refine .cl rfl call196 (evs3 rfl rfl rfl) (atQ _ _ _ aB aB aA _) ?_;iterate 3 refine AX ?_
  refine .p rfl (abU (i) U159 Z210 (tm rfl) (tm rfl) aA aA) (.e0 (qE Z210 (tm rfl) (tm rfl) (oS _ _ _) aA) ?_);try first|rw[sS]|rw[sU aB]
  iterate 9 refine AX ?_
  rw[hgm];refine Round.mk (J:=bvH vs tl b o n cp zs H) ⟨i+1,_,_,by omega,by simpa using hw,Limbs.set hwl (bR _ aC),by omega,λj hj=>by rw[getD_set_ne aA];exact hg j aA,bkV aA hval,rfl,by rw[ayN aA aA],rfl⟩ sX (hRa _) aA
 iterate 4 refine AX ?_
 refine Ret.go' .nil _ (hRa _) ?_;have hin:i=n:=by omega
 subst hin;rw[aY (l:=((zs.drop o).take i)) aG,aY (l:=vs) aA]at hval;exact⟨ws,hw,hwl,biA hwl hw hval,rfl⟩
end
theorem ahU{k:Nat}(h:k<zs.length):val (zs.drop k)=zs.getD k 0+4294967296*val (zs.drop (k+1)):=by
 rw[cL h,val,aP,aX h];rfl
theorem chG{xs:List Nat}{o:Nat}(hl:ws.length=xs.length)(ho:o≤zs.length):mid (mid zs o ws) o xs=mid zs o xs:=by
 have e:(zs.take o).length=o:=by rw[aV];omega
 unfold mid;congr 1
 ·grind
 rw[fF,cS aG,cH,gT,hl];congr 1;simp;omega
theorem cfF{o:Nat}(ho:o≤zs.length):val (mid zs o ws)=val (zs.take o)+4294967296^o*(val ws+4294967296^ws.length*val (zs.drop (o+ws.length))):=by
 unfold mid;rw[bK,qW,qW,aV,cZ ho]
theorem azZ{l M:Nat}(h:l<X):M*X≤l+X*M∧l+X*M<(M+1)*X:=by
 grind
theorem top2(hn:2≤n)(hv:vs.length=n)(hl:Limbs vs):
  (vs.getD (n-1) 0*4294967296+vs.getD (n-2) 0)*4294967296^(n-2)≤val vs∧val vs<(vs.getD (n-1) 0*4294967296+vs.getD (n-2) 0+1)*4294967296^(n-2):=by
 have h1:=agG (xs:=vs) (k:=n-2) aA;have h2:=anO hl (k:=n-2) aA;have h3:=ahU (zs:=vs) (k:=n-2) aA;have h4:=ahU (zs:=vs) (k:=n-2+1) aA;rw[show n-2+1=n-1 by omega]at *;rw[cS (i:=n-1+1) aA,val]at h4;rw[h3,h4]at h1;generalize 4294967296^(n-2)=X at *;generalize vs.getD (n-1) 0=a at *;generalize vs.getD (n-2) 0=b at *;rw[show b+4294967296*(a+4294967296*0)=a*4294967296+b by omega]at h1;rw[h1];exact azZ h2
theorem top3(hn:2≤n)(hv:us.length=n+1)(hl:Limbs us):
  ((us.getD n 0*4294967296+us.getD (n-1) 0)*4294967296+us.getD (n-2) 0)*4294967296^(n-2)≤val us∧val us<((us.getD n 0*4294967296+us.getD (n-1) 0)*4294967296+us.getD (n-2) 0+1)*4294967296^(n-2):=by
 have h1:=agG (xs:=us) (k:=n-2) aA;have h2:=anO hl (k:=n-2) aA;have h3:=ahU (zs:=us) (k:=n-2) aA;have h4:=ahU (zs:=us) (k:=n-2+1) aA;have h5:=ahU (zs:=us) (k:=n-2+1+1) aA;rw[cS (i:=n-2+1+1+1) aA,val]at h5;rw[h3,h4,h5]at h1;rw[show n-2+1+1=n by omega,show n-2+1=n-1 by omega]at h1;generalize 4294967296^(n-2)=X at *;generalize us.getD n 0=c at *;generalize us.getD (n-1) 0=a at *;generalize us.getD (n-2) 0=b at *;rw[show b+4294967296*(a+4294967296*(c+4294967296*0))=(c*4294967296+a)*4294967296+b by omega]at h1;rw[h1];exact azZ h2
theorem baY(_:Limbs zs)(hj:j+(n+1)≤zs.length)(hV:V<4294967296^n)(h:val zs<V*4294967296^(j+1)):
  val (zs.drop (j+(n+1)))=0∧val zs=val (zs.take j)+4294967296^j*val ((zs.drop j).take (n+1)):=by
 have h1:=agG (xs:=zs) (k:=j) aA;have h2:=agG (xs:=zs.drop j) (k:=n+1) aG;rw[gT]at h2;have h3:V*4294967296^(j+1)≤4294967296^j*4294967296^(n+1):=by
  rw[bP,bP,bM V,bJ,bM 4294967296 V];exact bS _ (bD _ (dK hV))
 have h0:val (zs.drop (j+(n+1)))=0:=by
  rcases bF (val (zs.drop (j+(n+1))))with h4|h4
  ·exact h4
  exfalso;have h5:4294967296^(n+1)*1≤4294967296^(n+1)*val (zs.drop (j+(n+1))):=bS _ h4;have h6:4294967296^j*4294967296^(n+1)≤4294967296^j*val (zs.drop j):=bS _ aA;omega
 rw[h0,dJ,cA]at h2;exact⟨h0,by rw[h1,h2]⟩
theorem buJ(hz:Limbs zs)(hj:j+(n+1)≤zs.length)(hV:V<4294967296^n)(h0:0<V)(h:val zs<V*4294967296^(j+1))(hw:ws.length=n+1)(hv:val ws=val ((zs.drop j).take (n+1))%V)
  (hq:j<qs.length)(hA:A=val (qs.drop (j+1))*V*4294967296^(j+1)+val zs):
  val (mid zs j ws)<V*4294967296^j∧A=val ((qs.set j (val ((zs.drop j).take (n+1))/V)).drop j)*V*4294967296^j+val (mid zs j ws):=by
 obtain⟨hr,he⟩:=baY hz hj hV h;have ht:=anO hz (k:=j) aA;rw[cfF aA,hw,hr,dJ,cA,hv];have hq2:val ((qs.set j (val ((zs.drop j).take (n+1))/V)).drop j)=val ((zs.drop j).take (n+1))/V+4294967296*val (qs.drop (j+1)):=by
  rw[ahU (by simpa using hq),ayU hq,List.drop_set_of_lt aA]
 rw[hq2];generalize val ((zs.drop j).take (n+1))=U at *;have hm:=bR U h0;have hd:=cM U V;constructor
 ·have:4294967296^j*(U%V+1)≤4294967296^j*V:=bS _ hm;rw[cB,fB]at this;rw[bM V];omega
 grind
theorem bzO(hz:Limbs zs)(hj:j+(n+1)≤zs.length)(hV:V<4294967296^n)(h:val zs<V*4294967296^(j+1)):val ((zs.drop j).take (n+1))<V*4294967296:=by
 obtain⟨_,he⟩:=baY hz hj hV h;have:4294967296^j*val ((zs.drop j).take (n+1))<4294967296^j*(V*4294967296):=by
  rw[bP,←bJ,bM V,bJ]at h;omega
 exact Nat.lt_of_mul_lt_mul_left this
section
open Go Go.RowKit
set_option maxRecDepth 100000
def awV(A V j:Nat)(zs qs:List Nat):Prop:=val zs<V*4294967296^j∧A=val (qs.drop j)*V*4294967296^j+val zs
def bwZ(vs:List Nat)(n:Nat):Prop:=2147483648*4294967296^(n-1)≤val vs∧val vs<4294967296^n
theorem anQ(h:x<4294967296):x*2^32<18446744073709551616:=by
 rw[show(2:Nat)^32=4294967296 by decide];omega
theorem clL(h:d*v+r=T)(hT:T<18446744073709551616)(hv:0<v):d<18446744073709551616:=by
 have:d*1≤d*v:=bS _ hv;omega
theorem cgH(h:r<4294967296)(k:v<4294967296):r+v<18446744073709551616:=by omega
theorem ckM(h:x<4294967296)(k:y<4294967296):x*2^32|||y<18446744073709551616:=by
 rw[akX (k:=32) (fM k aC),show(2:Nat)^32=4294967296 by decide];omega
theorem big32(h:x<4294967296):x<18446744073709551616:=by omega
theorem cfM(h:x<4294967296)(k:y<4294967296):x*4294967296+y<18446744073709551616:=by omega
theorem chB{s:Nat}(hy:0<y)(hn:(zF y).length=n)(hs:32-yN ((zF y).getD (n-1) 0)=s):s<32∧2147483648*4294967296^(n-1)≤y*2^s∧y*2^s<4294967296^n:=by
 have h1:=akI hy;rw[hn]at h1;have h2:0<yN y:=by rw[ccQ hy];omega
 have h3:=(qI (n:=(zF y).getD (n-1) 0) (k:=32)).2 (Limbs.getD (zH y) _);have hn0:0<n:=by rw[←hn,qV hy];simp
 have h4:y<2^yN y:=qI.1 (aZ _);have h5:2^(yN y-1)≤y:=by
  rcases bX y (2^(yN y-1))with h|h
  ·have:=qI.2 h;omega
  exact h
 have h6:0<yN ((zF y).getD (n-1) 0):=by
  rcases bF (yN ((zF y).getD (n-1) 0))with h|h
  ·exfalso;have h7:=qI.1 (Nat.le_of_eq h);have h8:(zF y).getD (n-1) 0=0:=by simpa using h7
   have h9:=acC (xs:=zF y) (k:=n-1) aA;rw[aN h8,aY aA,aiF,hn]at h9;have h10:=aaR ((zF y).take (n-1));rw[←h9,aV]at h10;omega
  exact h
 have e1:(4294967296:Nat)^n=2^(yN y+s):=by rw[show(4294967296:Nat)=2^32 by decide,←dV];congr 1;omega
 have e2:2147483648*4294967296^(n-1)=2^(yN y-1+s):=by rw[show(4294967296:Nat)=2^32 by decide,show(2147483648:Nat)=2^31 by decide,←dV,←bI];congr 1;omega
 refine⟨by omega,?_,?_⟩
 ·rw[e2,bI];exact bD _ h5
 rw[e1,bI];exact dE h4 (bL aC)
theorem bnS{s m la:Nat}(hx:x<4294967296^la)(hs:s<32)(hm:la=n+m)(hn:0<n)(hV:2147483648*4294967296^(n-1)≤y*2^s):x*2^s<y*2^s*4294967296^(m+1)∧x*2^s<4294967296^(la+1):=by
 have h1:2^s≤2^31:=bB aC aA;have h2:x*2^s<4294967296^la*2147483648:=Nat.mul_lt_mul_of_lt_of_le hx h1 aC;constructor
 ·have h3:4294967296^la*2147483648≤y*2^s*4294967296^(m+1):=by
   rw[show 4294967296^la=4294967296^(n-1)*4294967296^(m+1) by rw[←bI];congr 1;omega,Nat.mul_right_comm];exact bD _ (by rw[bM];exact hV)
  exact bQ h2 h3
 rw[bP];exact bQ h2 (bS _ aC)
theorem caY(h:y≤x):(zF y).length≤(zF x).length:=qH.2 (bA h (qH.1 (aZ _)))
theorem caU{s Q R:Nat}(hV:V=y*2^s)(hlt:R<V)(hA:x*2^s=Q*V+R):Q=x/y∧R=x%y*2^s:=by
 have h1:x*2^s/V=Q:=by rw[hA,bM,Nat.mul_add_div aA,cD hlt,cA]
 have h2:x*2^s%V=R:=by rw[hA,bM,Nat.mul_add_mod,bH hlt]
 rw[hV,gO _ _ (bL aC)]at h1;rw[hV,gP]at h2;exact⟨h1.symm,h2.symm⟩
theorem Heap.fresh_inv{H:Heap}{b:Nat}{x:AObj}(h:(H.set b x).objs c=none):H.objs c=none:=by
 rwa[oN _ _ (Ne.symm (Heap.fresh_ne h))]at h
theorem brA{rs A:List Nat}{i:Nat}(hi:i<rs.length)(hA:i<A.length)(h:rs.take i=A.take i)(hv:v=A.getD i 0):(rs.set i v).take (i+1)=A.take (i+1):=by
 subst hv;have h1:i<(rs.set i (A.getD i 0)).length:=by simpa using hi
 rw[←cI h1,←cI hA,List.take_set_of_le (aZ _),h,List.getElem_set_self,aP,aX hA];rfl
theorem boX{U u2:Nat}(hU1:(T*4294967296+u2)*X≤U)(hU2:U<(T*4294967296+u2+1)*X)(hV1:(v1*4294967296+v2)*X≤V)(hV2:V<(v1*4294967296+v2+1)*X)(hpl:U<V*4294967296)
  (hu2:u2<4294967296)(hv2:v2<4294967296)(hV:2147483648*(4294967296*X)≤V)(hX:0<X):
  2147483648≤v1∧T<(v1+1)*4294967296∧0<V∧U/V<4294967296∧U/V≤T/v1∧(∀d r,d*v1+r=T→r*4294967296+u2<d*v2→U/V<d)∧(∀d r,d<4294967296→d*v1+r=T→d*v2≤r*4294967296+u2→d≤U/V+1):=by
 have hv1:2147483648≤v1:=by
  have h1:2147483648*4294967296*X<(v1*4294967296+v2+1)*X:=by rw[bJ];omega
  have h2:=eF h1;omega
 have hV0:0<V:=by
  have:0<(v1*4294967296+v2)*X:=gS aA hX;omega
 refine⟨hv1,?_,hV0,?_,?_,?_,?_⟩
 ·have h1:(T*4294967296+u2)*X<((v1*4294967296+v2+1)*4294967296)*X:=by
   rw[Nat.mul_right_comm _ 4294967296 X];omega
  have h2:=eF h1;omega
 ·rw[bW hV0,bM];exact hpl
 ·refine cbM (X:=4294967296*X) aA ?_ ?_ aA
  ·have h1:(T*4294967296+u2+1)*X≤((T+1)*4294967296)*X:=bD _ aA;rw[bJ (T+1)]at h1;omega
  have h1:(v1*4294967296)*X≤(v1*4294967296+v2)*X:=bD _ aA;rw[bJ v1]at h1;omega
 ·intro d r hdr hx;exact boF hX hdr hU2 hV1 hx
 intro d r hd hdr hx;exact bvE hX hd hv1 hdr hU1 hV2 hV1 hx
theorem bgV(hn:2≤n)(hz:Limbs zs)(hj:j+(n+1)≤zs.length)(hvl:vs.length=n)(hv:Limbs vs)(hN:bwZ vs n)(hO:awV A (val vs) (j+1) zs qs):
  2147483648≤vs.getD (n-1) 0∧zs.getD (j+n) 0*4294967296+zs.getD (j+(n-1)) 0<(vs.getD (n-1) 0+1)*4294967296∧0<val vs∧val ((zs.drop j).take (n+1))/val vs<4294967296∧
  val ((zs.drop j).take (n+1))/val vs≤(zs.getD (j+n) 0*4294967296+zs.getD (j+(n-1)) 0)/vs.getD (n-1) 0∧
  (∀d r,d*vs.getD (n-1) 0+r=zs.getD (j+n) 0*4294967296+zs.getD (j+(n-1)) 0→r*4294967296+zs.getD (j+(n-2)) 0<d*vs.getD (n-2) 0→val ((zs.drop j).take (n+1))/val vs<d)∧
  (∀d r,d<4294967296→d*vs.getD (n-1) 0+r=zs.getD (j+n) 0*4294967296+zs.getD (j+(n-1)) 0→d*vs.getD (n-2) 0≤r*4294967296+zs.getD (j+(n-2)) 0→d≤val ((zs.drop j).take (n+1))/val vs+1):=by
 obtain⟨hV,hVn⟩:=hN;obtain⟨h,_⟩:=hO;have hPl:((zs.drop j).take (n+1)).length=n+1:=by simp;omega
 have hPL:Limbs ((zs.drop j).take (n+1)):=(hz.drop _).take _;obtain⟨hU1,hU2⟩:=top3 hn hPl hPL;obtain⟨hV1,hV2⟩:=top2 hn hvl hv;rw[ahS aA,ahS aA,ahS aA]at hU1 hU2;have hpl:=bzO (j:=j) hz hj hVn h;have hu2:=Limbs.getD hz (j+(n-2));have hv2:=Limbs.getD hv (n-2);have hXe:4294967296^(n-1)=4294967296*4294967296^(n-2):=by rw[←Nat.pow_succ',show(n-2).succ=n-1 by omega]
 have hX:0<4294967296^(n-2):=bL aC;rw[hXe]at hV;exact boX hU1 hU2 hV1 hV2 hpl hu2 hv2 hV hX
theorem bhI{b2:Nat}(hz:Limbs zs)(hj:j+(n+1)≤zs.length)(hV:0<V)(hw:ws.length=n+1)(hwL:Limbs ws)(hd1:val ((zs.drop j).take (n+1))/V≤d)(hd2:d≤val ((zs.drop j).take (n+1))/V+1)(h:val ((zs.drop j).take (n+1))+4294967296^(n+1)*b2=val ws+d*V)(hb:b2≤1):
  (b2=0→d=val ((zs.drop j).take (n+1))/V∧val ws=val ((zs.drop j).take (n+1))%V)∧(b2=1→d=val ((zs.drop j).take (n+1))/V+1∧(val ws+V)%4294967296^(n+1)=val ((zs.drop j).take (n+1))%V):=by
 have hPl:((zs.drop j).take (n+1)).length=n+1:=by simp;omega
 have hPL:Limbs ((zs.drop j).take (n+1)):=(hz.drop _).take _;have hU3:=aeO hPL;have hwlt:=aeO hwL;rw[hPl]at hU3;rw[hw]at hwlt;exact bqZ hV hwlt hd1 hd2 hU3 h hb
theorem bnT(hz:Limbs zs)(hj:j+(n+1)≤zs.length)(hN:bwZ vs n)(h0:0<val vs)(hO:awV A (val vs) (j+1) zs qs)(hw:ws.length=n+1)(hv:val ws=val ((zs.drop j).take (n+1))%val vs)(hq:j<qs.length):
  awV A (val vs) j (mid zs j ws) (qs.set j (val ((zs.drop j).take (n+1))/val vs)):=buJ hz hj hN.2 h0 hO.1 hw hv hq hO.2
theorem buK{s:Nat}(hV:val vs=y*2^s)(hO:awV (x*2^s) (val vs) 0 zs qs):val zs<val vs∧val qs=x/y∧val zs=x%y*2^s:=by
 obtain⟨h1,h2⟩:=hO;rw[eA,fB]at h1;rw[eA,fB,dL]at h2;obtain⟨h3,h4⟩:=caU hV h1 h2;exact⟨h1,h3,h4⟩
theorem bnV{s m la:Nat}(hx:(zF x).length=la)(_:0<y)(hs:s<32)(hm:la=n+m)(hn:0<n)(h2:2147483648*4294967296^(n-1)≤y*2^s)(h3:y*2^s<4294967296^n)(hv:val vs=val (zF y)*2^s%4294967296^n)(hu:val us=val (zF x)*2^s%4294967296^(la+1)):
  val vs=y*2^s∧bwZ vs n∧awV (x*2^s) (val vs) (m+1) us (List.replicate (m+1) 0):=by
 obtain⟨hst1,hst2⟩:=bnS (qH.1 (Nat.le_of_eq hx)) hs hm hn h2;have hV:val vs=y*2^s:=by rw[hv,zN,bH h3]
 have hU:val us=x*2^s:=by rw[hu,zN,bH hst2]
 refine⟨hV,⟨by rw[hV];exact h2,by rw[hV];exact h3⟩,by rw[hU,hV];exact hst1,?_⟩;rw[cS aF,val,dO,dO,bZ,hU]
theorem ccN(ht:d*v1+r=T)(hT:T<(v1+1)*4294967296)(_:r<4294967296)(hb:4294967296≤r+v1)(hd:0<d)(_:0<v1):d-1<4294967296:=by
 rcases bX (d-1) 4294967296 with h|h
 ·exact h
 exfalso;have h1:(4294967296+1)*v1≤d*v1:=bD _ aA;rw[bY]at h1 hT;omega
theorem ciK(hd:0<d)(h:d*v1+r=T):(d-1)*v1+(r+v1)=T:=by
 obtain⟨e,rfl⟩:∃e,d=e+1:=⟨d-1,by omega⟩;rw[bY]at h;rw[Nat.add_sub_cancel];omega
theorem byI{s:Nat}(hz:Limbs zs)(hs:s<32)(hn:n≤zs.length)(hV:V<4294967296^n)(h:val zs<V):val ((axF s zs).take n)=val zs/2^s:=by
 have h1:=agG (xs:=axF s zs) (k:=n) (by rw[apN];exact hn);rw[axE aA hz]at h1;have h2:val zs/2^s≤val zs:=dP _ _;have h3:val ((axF s zs).drop n)=0:=by
  rcases bF (val ((axF s zs).drop n))with h|h
  ·exact h
  have:4294967296^n*1≤4294967296^n*val ((axF s zs).drop n):=bS _ h;omega
 rw[h3]at h1;omega
def ceL(s n m b38 b49:Nat)(vs:List Nat)(A:Nat)(H:Heap):Nat→Env→Heap→Prop:=λk env H1=>∃(i:Nat)(zs qs:List Nat),i≤m+1∧zs.length=n+m+1∧Limbs zs∧qs.length=m+1∧Limbs qs∧awV A (val vs) (m+1-i) zs qs∧env=[(6,.int .i64 (s:Int)),(7,.int .i64 (n:Int)),(8,.int .i64 (m:Int)),(9,.slice 1 (U .u32 vs) .shared),(10,.mslice (some ⟨b38,0,none⟩) (n+m+1) (n+m+1)),(11,.mslice (some ⟨b49,0,none⟩) (m+1) (m+1)),(51,.int .i64 ((m:Int)+1)),(52,.int .i64 (i:Int))]∧H1=(H.set b38 (.box 210 (U .u32 zs))).set b49 (.box 210 (U .u32 qs))∧k=m+1-i
def buM(s n m b38 b49 i T:Nat)(vs zs qs:List Nat)(H:Heap):Nat→Env→Heap→Prop:=λk env H1=>∃(d r:Nat),d*vs.getD (n-1) 0+r=T∧r<4294967296∧(val ((zs.drop (m-i)).take (n+1))/val vs)≤d∧env=[(15,.int .u64 (d:Int)),(16,.int .u64 (r:Int)),(13,.int .i64 ((m-i:Nat):Int)),(6,.int .i64 (s:Int)),(7,.int .i64 (n:Int)),(8,.int .i64 (m:Int)),(9,.slice 1 (U .u32 vs) .shared),(10,.mslice (some ⟨b38,0,none⟩) (n+m+1) (n+m+1)),(11,.mslice (some ⟨b49,0,none⟩) (m+1) (m+1)),(51,.int .i64 ((m:Int)+1)),(52,.int .i64 (i:Int))]∧H1=(H.set b38 (.box 210 (U .u32 zs))).set b49 (.box 210 (U .u32 qs))∧k=d
def bgI(s n m b38 b49 i:Nat)(vs zs qs:List Nat)(H:Heap):Env→Heap→Prop:=λenv H1=>∃d:Nat,d<4294967296∧(val ((zs.drop (m-i)).take (n+1))/val vs)≤d∧d≤(val ((zs.drop (m-i)).take (n+1))/val vs)+1∧env=[(15,.int .u64 (d:Int)),(13,.int .i64 ((m-i:Nat):Int)),(6,.int .i64 (s:Int)),(7,.int .i64 (n:Int)),(8,.int .i64 (m:Int)),(9,.slice 1 (U .u32 vs) .shared),(10,.mslice (some ⟨b38,0,none⟩) (n+m+1) (n+m+1)),(11,.mslice (some ⟨b49,0,none⟩) (m+1) (m+1)),(51,.int .i64 ((m:Int)+1)),(52,.int .i64 (i:Int))]∧H1=(H.set b38 (.box 210 (U .u32 zs))).set b49 (.box 210 (U .u32 qs))
def bgH(s n m b38 b49 i:Nat)(vs zs qs:List Nat)(H:Heap):Env→Heap→Prop:=λenv H1=>∃ws:List Nat,ws.length=n+1∧Limbs ws∧val ws=val ((zs.drop (m-i)).take (n+1))%val vs∧env=[(15,.int .u64 (((val ((zs.drop (m-i)).take (n+1))/val vs):Nat):Int)),(13,.int .i64 ((m-i:Nat):Int)),(6,.int .i64 (s:Int)),(7,.int .i64 (n:Int)),(8,.int .i64 (m:Int)),(9,.slice 1 (U .u32 vs) .shared),(10,.mslice (some ⟨b38,0,none⟩) (n+m+1) (n+m+1)),(11,.mslice (some ⟨b49,0,none⟩) (m+1) (m+1)),(51,.int .i64 ((m:Int)+1)),(52,.int .i64 (i:Int))]∧H1=(H.set b38 (.box 210 (U .u32 (mid zs (m-i) ws)))).set b49 (.box 210 (U .u32 qs))
def buL(n s b157:Nat)(zs:List Nat)(e:Env)(H:Heap):Nat→Env→Heap→Prop:=λk env H1=>∃(i:Nat)(rs:List Nat),i≤n∧rs.length=n∧Limbs rs∧rs.take i=(axF s zs).take i∧env=[(6,.int .i64 (s:Int)),(10,.slice 1 (U .u32 zs) .shared),(17,.mslice (some ⟨b157,0,none⟩) n n),(158,.int .i64 (n:Int)),(159,.int .i64 (i:Int))]++e∧H1=H.set b157 (.box 210 (U .u32 rs))∧k=n-i
set_option maxHeartbeats 4000000 in
theorem bnU(x y:Nat)(hy:2≤(zF y).length)(hxy:y≤x)(hx:x<BIG)(H:Heap):ACall prog 303 [qX x,qX y] H (λz H'=>z= .tuple [qX (x/y),qX (x%y)]∧H'=H):=by
 have hy256:=yM (n:=y) aA;have hx256:=yM hx;have hxl:=caY hxy;have hy0:0<y:=by
  rcases bF y with h|h
  ·rw[h,aaU]at hy;simp at hy
  exact h
 refine .of_body func303 rfl ntmps303 results303 rfl ?_;iterate 11 refine AM ?_
 refine AX ?_;refine .p rfl (zV ((zF y).length-1) U159 Z210 (tm rfl) (tm rfl) aA aA) ?_;refine AX ?_;refine .cl rfl call323 (evs1 rfl) (bpU _ (Limbs.getD (zH _) _) _) ?_;iterate 3 refine AX ?_
 refine .seqToL [(7,.int .i64 (((zF y).length:Nat):Int)),(8,.int .i64 (((zF x).length-(zF y).length:Nat):Int))] [0,1,4,5,6] ?_ ?_
 ·iterate 11 refine AX ?_
  exact⟨rfl,(zR rfl aD (zR rfl (by(congr 1;omega)) sX)),rfl⟩
 refine .sub [(7,_),(8,_),(0,_),(1,_),(4,_),(5,_),(6,_)] sX ?_;generalize hs:32-yN ((zF y).getD ((zF y).length-1) 0)=s;obtain⟨hs1,hs2,hs3⟩:=chB hy0 rfl hs;generalize hn:(zF y).length=n at *;generalize hmm:(zF x).length-n=m at *;have hla:(zF x).length=n+m:=by omega
 refine .meet (λenv H1=>∃b34 b38:Nat,b34≠b38∧H.objs b34=none∧H.objs b38=none∧env=[(0,qX x),(1,qX y),(6,.int .i64 (s:Int)),(7,.int .i64 (n:Int)),(8,.int .i64 (m:Int)),(9,.mslice (some ⟨b34,0,none⟩) n n),(10,.mslice (some ⟨b38,0,none⟩) (n+m+1) (n+m+1))]∧H1=(H.set b34 (.box 210 (U .u32 (List.replicate n 0)))).set b38 (.box 210 (U .u32 (List.replicate (n+m+1) 0)))) ?_ ?_
 ·refine .draw2 [(0,true),(2,true),(3,true),(4,true)] 1 5 [(6,true),(5,false),(7,true)] [(1,false),(6,true),(7,true)] rfl aE ?_;iterate 5 refine AX ?_
  refine⟨?_,?_⟩
  ·refine XTwo.s rfl rfl (yQ (n) U159 typeInfo210 Z210 V210 (tm rfl) (tm rfl) aA aA aC aA) ?_;rintro _ _ ⟨b34,rfl,hb34,hH⟩;obtain rfl:=hH.symm;refine AX ?_;refine .s rfl rfl (yQ (n+m+1) U159 typeInfo210 Z210 V210 (tm rfl) (tm rfl) aA aA aC aA) ?_;rintro _ _ ⟨b38,rfl,hb38,hH⟩;obtain rfl:=hH.symm;iterate 3 refine AX ?_
   refine .mk ⟨b34,b38,Heap.fresh_ne hb38,hb34,Heap.fresh_inv hb38,rfl,rfl⟩ sX (hRa _)
  refine XTwo.s rfl rfl (yQ (n+m+1) U159 typeInfo210 Z210 V210 (tm rfl) (tm rfl) aA aA aC aA) ?_;rintro _ _ ⟨b38,rfl,hb38,hH⟩;obtain rfl:=hH.symm;refine .s rfl rfl (yQ (n) U159 typeInfo210 Z210 V210 (tm rfl) (tm rfl) aA aA aC aA) ?_;rintro _ _ ⟨b34,rfl,hb34,hH⟩;obtain rfl:=hH.symm;iterate 4 refine AX ?_
  refine .mk ⟨b34,b38,(Heap.fresh_ne hb34).symm,Heap.fresh_inv hb34,hb38,rfl,Heap.set_comm (Heap.fresh_ne hb34) _ _⟩ sX (hRa _)
 rintro _ _ ⟨b34,b38,hne,hb34,hb38,rfl,rfl⟩;iterate 5 refine AX ?_
 refine .s rfl (zB call242 (evs3 rfl rfl rfl) (alF (zF y) .shared (zH _) aA b34 0 n n s (List.replicate n 0) (Limbs.rep aA) aF aA aA _ ((oN _ _ hne).trans (oS _ _ _)))) ?_;rintro _ _ ⟨vs,hvl,hvL,hvv,hH⟩;obtain rfl:=hH.symm;rw[asC (by simpa using hvl),Heap.set_swap hne];iterate 3 refine AX ?_
 refine .frzU (t:=9) rfl ((oN _ _ hne).trans hb34) aA (aZ _) (by simp only[zQ];omega) ?_;rw[aY (l:=vs) aA];iterate 4 refine AX ?_
 refine .s rfl (zB call242 (evs3 rfl rfl rfl) (alF (zF x) .shared (zH _) aA b38 0 (n+m+1) (n+m+1) s (List.replicate (n+m+1) 0) (Limbs.rep aA) aF aA aA _ (oS _ _ _))) ?_;rintro _ _ ⟨us,hul,huL,huv,hH⟩;obtain rfl:=hH.symm;rw[asC (by simpa using hul),sS];iterate 6 refine AX ?_
 refine .s rfl (yQ (m+1) U159 typeInfo210 Z210 V210 (tm rfl) (tm rfl) aA aA aC aA) ?_;rintro _ _ ⟨b49,rfl,hb49,hH⟩;obtain rfl:=hH.symm;iterate 5 refine AX ?_
 have hne2:b38≠b49:=Heap.fresh_ne hb49;have hb49n:H.objs b49=none:=Heap.fresh_inv hb49;obtain⟨hV,hNV,hO0⟩:=bnV (m:=m) hla hy0 hs1 rfl aA hs2 hs3 hvv huv;clear hs2 hs3 hvv huv;have hvv1:=Limbs.getD hvL (n-1);have hvv2:=Limbs.getD hvL (n-2);iterate 7 refine AX ?_
 refine .loopW (ceL s n m b38 b49 vs (x*2^s) H) (m+1) ⟨0,us,List.replicate (m+1) 0,Nat.zero_le _,hul,huL,by simp,Limbs.rep aA,hO0,rfl,rfl,rfl⟩ sX (hRa _) ?_;rintro _ _ _ ⟨i,zs,qs,hi,hzl,hzL,hql,hqL,hO,rfl,rfl,hk⟩;iterate 6 refine AX ?_
 refine .cx rfl (λhc53=>?_) (λhc53=>?_)
 ·have hji:m+1-i=m-i+1:=by omega
  rw[hji]at hO;have hjn:m-i+n+1-(m-i)=n+1:=by omega
  obtain⟨hD1,hD2,hVpos,hD4,hD5,hD6,hD7⟩:=bgV (j:=m-i) hy hzL aA hvl hvL hNV hO;have hu0:=Limbs.getD hzL (m-i+n);have hu1:=Limbs.getD hzL (m-i+(n-1));have hu2:=Limbs.getD hzL (m-i+(n-2));have hu0s:=anQ hu0;have hu1s:=big32 hu1;have hu2s:=big32 hu2;have htop:=cfM hu0 hu1;have hD0:=bQ (by decide:0<2147483648) hD1;have hqm:(val ((zs.drop (m-i)).take (n+1))/val vs)%2^IntKind.u32.bits=(val ((zs.drop (m-i)).take (n+1))/val vs):=bH hD4;iterate 10 refine AX ?_
  refine .seqToL [(13,.int .i64 ((m-i:Nat):Int))] [6,7,8,9,10,11,51,52] ?_ ?_
  ·iterate 6 refine AX ?_
   exact⟨rfl,(zR rfl (by congr 1;omega) sX),rfl⟩
  refine .sub [(13,_),(6,_),(7,_),(8,_),(9,_),(10,_),(11,_),(51,_),(52,_)] sX ?_;refine .seqToL [(14,.int .u64 (((zs.getD (m-i+n) 0*4294967296+zs.getD (m-i+(n-1)) 0):Nat):Int))] [13,6,7,8,9,10,11,51,52] ?_ ?_
  ·refine .draw2 [(0,true),(1,true),(2,true),(3,true),(4,true),(8,true),(9,true),(10,true),(11,true),(12,true),(13,true)] 5 14 [(6,true),(7,true),(14,false),(15,true),(16,true),(17,true)] [(15,true),(5,false),(6,true),(7,true),(16,true),(17,true)] rfl aE ?_;iterate 4 refine AX ?_
   refine .p rfl rfl (yG (m-i+n) U159 Z210 (tm rfl) (tm rfl) aA aA) ?_;iterate 5 refine AX ?_
   refine .p rfl rfl (yG (m-i+(n-1)) U159 Z210 (tm rfl) (tm rfl) aA aA) ?_;refine AX ?_;refine⟨?_,?_⟩
   ·refine XTwo.s rfl rfl (qJ G210 (tm rfl) ((oN _ _ aB).trans (oS _ _ _)) aA) ?_;rintro _ _ ⟨rfl,hH⟩;obtain rfl:=hH.symm;refine AX ?_;refine .p rfl rfl (qZ (tm rfl) (yB 32) aA (by exact hu0s)) (.s rfl rfl (qJ G210 (tm rfl) ((oN _ _ aB).trans (oS _ _ _)) aA) ?_);rintro _ _ ⟨rfl,hH⟩;obtain rfl:=hH.symm;refine .p rfl rfl (qD U210 U25 (tm rfl) (wrapN64 aB)) (.p rfl rfl (abK (tm rfl) (tm rfl) (hu0s) (hu1s)) ?_);iterate 2 refine AX ?_
    exact⟨rfl,(zR rfl (by rw[akX (k:=32) (fM hu1 aC)]) sX),rfl⟩
   refine XTwo.s rfl rfl (qJ G210 (tm rfl) ((oN _ _ aB).trans (oS _ _ _)) aA) ?_;rintro _ _ ⟨rfl,hH⟩;obtain rfl:=hH.symm;refine .p rfl rfl (qD U210 U25 (tm rfl) (wrapN64 aB)) (.s rfl rfl (qJ G210 (tm rfl) ((oN _ _ aB).trans (oS _ _ _)) aA) ?_);rintro _ _ ⟨rfl,hH⟩;obtain rfl:=hH.symm;refine AX ?_;refine .p rfl rfl (qZ (tm rfl) (yB 32) aA (by exact hu0s)) (.p rfl rfl (abK (tm rfl) (tm rfl) (hu0s) (hu1s)) ?_);iterate 2 refine AX ?_
   exact⟨rfl,(zR rfl (by rw[akX (k:=32) (fM hu1 aC)]) sX),rfl⟩
  refine .sub [(14,_),(13,_),(6,_),(7,_),(8,_),(9,_),(10,_),(11,_),(51,_),(52,_)] sX ?_;refine AX ?_;refine .draw [(0,true),(1,true),(2,true),(3,true),(4,true),(5,true),(6,true),(7,true),(8,true),(9,true),(10,true),(11,true),(12,true),(13,true),(14,true),(15,true),(16,true),(17,true)] rfl aE ?_;iterate 4 refine AX ?_
  refine .p rfl rfl (zV (n-1) U159 Z210 (tm rfl) (tm rfl) aA aA) ?_;iterate 2 refine AX ?_
  refine .p rfl rfl (anW (tm rfl) (tm rfl) (htop) (hD0)) ?_;iterate 4 refine AX ?_
  refine .p rfl rfl (zV (n-1) U159 Z210 (tm rfl) (tm rfl) aA aA) ?_;iterate 2 refine AX ?_
  refine .p rfl rfl (anV (tm rfl) (tm rfl) (hD0)) ?_;iterate 4 refine AX ?_
  refine .meet (bgI s n m b38 b49 i vs zs qs H) ?_ ?_
  ·refine AX ?_;refine .loopW (buM s n m b38 b49 i (zs.getD (m-i+n) 0*4294967296+zs.getD (m-i+(n-1)) 0) vs zs qs H) ((zs.getD (m-i+n) 0*4294967296+zs.getD (m-i+(n-1)) 0)/vs.getD (n-1) 0) ⟨_,_,Nat.div_add_mod' _ _,eG (bR _ aA) hvv1,hD5,rfl,rfl,rfl⟩ sX (hRa _) ?_;rintro _ _ _ ⟨d,r,hdr,hr,hq,rfl,rfl,hk2⟩;have hd64:=clL hdr htop hD0;refine AX ?_;refine .seqTo 115 (.bool (decide (4294967296≤d∨r*4294967296+zs.getD (m-i+(n-2)) 0<d*vs.getD (n-2) 0))) [15,16,13,6,7,8,9,10,11,51,52] ?_ ?_
   ·refine bhC (decide (((0:Nat):Int)<((d/2^32:Nat):Int))) (λhg94=>?_) (λhg94=>?_)
    ·have hdB:4294967296≤d:=by simp at hg94;omega
     refine .draw [(0,true),(1,true),(2,true),(3,true),(4,true),(5,true),(6,true),(7,true),(8,true),(9,true),(10,true),(11,true),(12,true),(13,true),(14,true),(15,true),(16,true),(17,true),(18,true),(19,true),(20,true),(21,true),(22,true),(23,true),(24,true)] rfl aE ?_;refine AX ?_;refine .p rfl rfl (aaM (tm rfl) (yB 32) (by exact hd64)) ?_;iterate 24 refine AM ?_
     exact⟨rfl,zS rfl (by(rw[eq_comm,aT];omega)) sX,rfl⟩
    have hdB:d<4294967296:=by simp at hg94;omega
    have hdv:=ayJ hdB hvv2;have hdvs:d*vs.getD (n-2) 0<18446744073709551616:=bA hdv aC;have hrs:=anQ hr;refine .draw [(0,true),(1,true),(2,true),(3,true),(4,true),(5,true),(6,true),(7,true),(8,true),(9,true),(10,true),(11,true),(12,true),(13,true),(14,true),(15,true),(16,true),(17,true),(18,true),(19,true),(20,false),(21,true),(22,true),(23,true),(24,true)] rfl aE ?_;refine AX ?_;refine .p rfl rfl (aaM (tm rfl) (yB 32) (by exact hd64)) ?_;iterate 5 refine AM ?_
    refine AX ?_;refine .gp rfl rfl rfl rfl aB (zV (n-2) U159 Z210 (tm rfl) (tm rfl) aA aA) ?_;iterate 2 refine AX ?_
    refine .gp rfl rfl rfl rfl aB (adP (tm rfl) (tm rfl) (by exact hdvs)) ?_;refine AX ?_;refine .gp rfl rfl rfl rfl aB (qZ (tm rfl) (yB 32) aA (by exact hrs)) ?_;iterate 5 refine AX ?_
    refine .gp rfl rfl rfl rfl aB (yG (m-i+(n-2)) U159 Z210 (tm rfl) (tm rfl) aA aA) (.gs rfl rfl rfl rfl aB (qJ G210 (tm rfl) ((oN _ _ aB).trans (oS _ _ _)) aA) ?_);rintro _ _ ⟨rfl,hH⟩;obtain rfl:=hH.symm;refine .gp rfl rfl rfl rfl aB (qD U210 U25 (tm rfl) (wrapN64 aB)) (.gp rfl rfl rfl rfl aB (abK (tm rfl) (tm rfl) (hrs) (hu2s)) ?_);iterate 3 refine AX ?_
    exact⟨rfl,zS rfl (by(rw[akX (k:=32) (fM hu2 aC),show(2:Nat)^32=4294967296 by decide,aQ];omega)) sX,rfl⟩
   refine .sub [(115,_),(15,_),(16,_),(13,_),(6,_),(7,_),(8,_),(9,_),(10,_),(11,_),(51,_),(52,_)] sX ?_;refine .cx rfl (λhc115=>?_) (λhc115=>?_)
   ·have hqd:(val ((zs.drop (m-i)).take (n+1))/val vs)<d:=by
     rcases hc115 with h|h
     ·omega
     exact hD6 d r hdr h
    have hd1:1≤d:=bA (Nat.zero_le _) hqd;have hrv:=cgH hr hvv1;have hdn:=ciK hd1 hdr;iterate 6 refine AX ?_
    refine .p rfl (afT (tm rfl) (yB 1) (hd1) (hd64)) ?_;iterate 9 refine AX ?_
    refine .p rfl (zV (n-1) U159 Z210 (tm rfl) (tm rfl) aA aA) ?_;iterate 2 refine AX ?_
    refine .p rfl (qF (tm rfl) (tm rfl) (by exact hrv)) ?_;iterate 6 refine AX ?_
    refine .p rfl (aaM (tm rfl) (yB 32) (by exact hrv)) ?_;iterate 3 refine AM ?_
    refine .cx rfl (λhc128=>?_) (λhc128=>?_)
    ·have hbk:=ccN hdr hD2 hr aA aA aA;have hbv:(d-1)*vs.getD (n-2) 0≤18446744065119617025:=ayJ hbk hvv2;iterate 5 refine AX ?_
     refine .mk ⟨d-1,hbk,by omega,hD7 _ _ hbk hdn aA,rfl,rfl⟩ sX (hRa _)
    iterate 3 refine AX ?_
    refine Round.mk ⟨d-1,r+vs.getD (n-1) 0,hdn,by omega,by omega,rfl,rfl,rfl⟩ sX (hRa _) aA
   iterate 5 refine AX ?_
   refine .mk ⟨d,by omega,hq,hD7 _ _ aA hdr aA,rfl,rfl⟩ sX (hRa _)
  rintro _ _ ⟨d,hdB,hd1,hd2,rfl,rfl⟩;refine .meet (bgH s n m b38 b49 i vs zs qs H) ?_ ?_
  ·iterate 8 refine AX ?_
   refine .p rfl (amF (m-i) (m-i+n+1) U159 Z210 (tm rfl) (tm rfl) (tm rfl) aA aA aA aA aA) ?_;iterate 2 refine AX ?_
   refine .s rfl (zB call324 (evs3 rfl rfl rfl) (bdY vs .shared hvL aA b38 (0+(m-i)) _ _ d hdB aA zs hzL aA aA _ ((oN _ _ hne2).trans (oS _ _ _)))) ?_;rintro _ _ ⟨b2,ws,hb2,hwl,hwL,hval,rfl,hH⟩;obtain rfl:=hH.symm;rw[sU hne2];rw[bZ,hjn]at hval;rw[hjn]at hwl;rw[bZ];obtain⟨hn0,hn1⟩:=bhI hzL aA hVpos hwl hwL hd1 hd2 hval hb2;clear hval;iterate 2 refine AX ?_
   refine .cx rfl (λhc138=>?_) (λhc138=>?_)
   ·obtain⟨hdd,hww⟩:=hn1 aA;have hd1:1≤d:=by rw[hdd];exact Nat.le_add_left _ _
    iterate 3 refine AX ?_
    refine .p rfl (afT (tm rfl) (yB 1) (hd1) (big32 hdB)) ?_;iterate 10 refine AX ?_
    refine .p rfl (amF (m-i) (m-i+n+1) U159 Z210 (tm rfl) (tm rfl) (tm rfl) aA aA aA aA aA) ?_;refine AX ?_;refine .s rfl (zB call325 (evs2 rfl rfl) (bgO vs .shared hvL aA b38 (0+(m-i)) _ _ aA (mid zs (m-i) ws) (aeF hzL hwL) (by rw[afV hwl aA];omega) aA _ ((oN _ _ hne2).trans (oS _ _ _)))) ?_;rintro _ _ ⟨ws2,hw2l,hw2L,hw2v,hH⟩;obtain rfl:=hH.symm;rw[sU hne2];rw[bZ,hjn,bbW hwl aA]at hw2v;rw[hjn]at hw2l;rw[bZ,chG aA aA];iterate 2 refine AX ?_
    refine .mk ⟨ws2,hw2l,hw2L,hw2v.trans hww,rfl,rfl⟩ (zR rfl (by rw[hdd,Nat.add_sub_cancel]) sX) (hRa _)
   obtain⟨hdd,hww⟩:=hn0 aA;iterate 2 refine AX ?_
   refine .mk ⟨ws,hwl,hwL,hww,rfl,rfl⟩ (zR rfl (by rw[hdd]) sX) (hRa _)
  rintro _ _ ⟨ws,hwl,hwL,hwv,rfl,rfl⟩;iterate 5 refine AX ?_
  refine .p rfl (yG (m-i) U159 Z210 (tm rfl) (tm rfl) aA aA) (.e0 (qE Z210 (tm rfl) (tm rfl) (oS _ _ _) aA) ?_);try first|rw[sS]|rw[sU aB]
  iterate 8 refine AX ?_
  have hL:=bnT hzL aA hNV hVpos hO hwl hwv aA;rw[hqm];refine Round.mk ⟨i+1,_,_,by omega,(afV hwl aA).trans hzl,aeF hzL hwL,by simpa using hql,Limbs.set hqL hD4,by rw[show m+1-(i+1)=m-i by omega];exact hL,rfl,rfl,rfl⟩ sX (hRa _) aA
 iterate 6 refine AX ?_
 have hi2:i=m+1:=by omega
 subst hi2;rw[Nat.sub_self]at hO;obtain⟨hlt,hQ,hR⟩:=buK hV hO;refine .frzU (t:=11) rfl ((oN _ _ hne2.symm).trans hb49n) aA (aZ _) (by simp only[zQ];omega) ?_;rw[aY (l:=qs) aA];refine .frzU (t:=10) rfl hb38 aA (aZ _) (by simp only[zQ];omega) ?_;rw[aY (l:=zs) aA];iterate 2 refine AX ?_
 refine .s rfl (yQ (n) U159 typeInfo210 Z210 V210 (tm rfl) (tm rfl) aA aA aC aA) ?_;rintro _ _ ⟨b157,rfl,hb157,hH⟩;obtain rfl:=hH.symm;iterate 11 refine AX ?_
 refine .loopW (buL n s b157 zs [(11,.slice 1 (U .u32 qs) .shared)] H) (n) ⟨0,List.replicate n 0,Nat.zero_le _,by simp,Limbs.rep aA,rfl,rfl,rfl,rfl⟩ sX (hRa _) ?_;rintro _ _ _ ⟨i,rs,hi,hrl,hrL,hrs,rfl,rfl,hk⟩;iterate 6 refine AX ?_
 refine .cx rfl (λhc160=>?_) (λhc160=>?_)
 ·have hz0:=Limbs.getD hzL i;have hz1:=Limbs.getD hzL (i+1);have hz1s:=anQ hz1;have hz0s:=big32 hz0;have hor:=ckM hz1 hz0;have hsg:=biH s (xs:=zs) (i:=i) aA;iterate 10 refine AX ?_
  refine .draw [(0,true),(1,true),(2,true),(3,true),(4,true),(5,true),(6,true),(7,true),(8,true),(9,true),(10,true),(11,true),(12,true),(13,true),(14,true),(15,true),(16,true),(17,true),(18,true),(19,false)] rfl aE ?_;iterate 5 refine AX ?_
  refine .p rfl rfl (zV (i+1) U159 Z210 (tm rfl) (tm rfl) aA aA) ?_;iterate 2 refine AX ?_
  refine .p rfl rfl (qZ (tm rfl) (yB 32) aA (by exact hz1s)) ?_;iterate 2 refine AX ?_
  refine .p rfl rfl (zV (i) U159 Z210 (tm rfl) (tm rfl) aA aA) ?_;refine AX ?_;refine .p rfl rfl (qD U210 U25 (tm rfl) (wrapN64 aB)) (.p rfl rfl (abK (tm rfl) (tm rfl) (hz1s) (hz0s)) ?_);refine AX ?_;refine .p rfl rfl (aaM (tm rfl) (tm rfl) (by exact hor)) ?_;refine AX ?_;refine .p rfl rfl (yG (i) U159 Z210 (tm rfl) (tm rfl) aA aA) (.s0 rfl (qE Z210 (tm rfl) (tm rfl) (oS _ _ _) aA) ?_);rintro _ _ ⟨rfl,hH⟩;obtain rfl:=hH.symm;try first|rw[sS]|rw[sU aB]
  iterate 8 refine AX ?_
  refine Round.mk ⟨i+1,_,by omega,by simpa using hrl,Limbs.set hrL (bR _ aC),brA aA (by rw[apN];omega) hrs (by rw[hsg,akX (k:=32) (fM hz0 aC),fG]),rfl,rfl,rfl⟩ sX (hRa _) aA
 iterate 6 refine AX ?_
 have hi2:i=n:=by omega
 subst hi2;refine .frzU (t:=17) rfl hb157 aA (aZ _) (by simp only[zQ];omega) ?_;rw[aY (l:=rs) aA];rw[aY (l:=rs) aA]at hrs;have hRv:val rs=x%y:=by
  rw[hrs,byI hzL hs1 aA hNV.2 hlt,hR,Nat.mul_div_cancel _ (bL aC)]
 iterate 2 refine AX ?_
 refine .cl rfl C194 (evs1 rfl) (aaG _ _ aB aA _) ?_;refine AX ?_;refine .cl rfl C194 (evs1 rfl) (aaG _ _ aB aA _) ?_;iterate 6 refine AX ?_
 refine⟨?_,rfl⟩;rw[hQ,hRv];rfl
end
section
open Go Go.RowKit
set_option maxRecDepth 100000
theorem apH(a b:Nat)(hx:a<BIG)(hb0:0<b)(hb:b<BIG):Fn 274 [qX a,qX b] (.tuple [qX (a/b),qX (a%b),.int .i64 0]):=by
 intro H;have ha256:=yM hx;have hb256:=yM hb;have hrb:=aiF b;have hva:=zN a;have hvb:=zN b;have hbl:0<(zF b).length:=by rw[qV hb0];simp
 refine .of_body func274 rfl ntmps274 results274 rfl ?_;iterate 4 refine AM ?_
 iterate 9 refine AX ?_
 refine .e rfl (aeT U314 Z159 V159 rfl (tm rfl) (.inl rfl) ⟨rfl,rfl⟩ (tm rfl) (.inl rfl) ⟨rfl,rfl⟩) (.cl rfl C193 (evs1 rfl) (aiE _ _ (zH _) aA _ _ _ (zH _) aA _) ?_);iterate 3 refine AX ?_
 refine .cx rfl (λhc11=>?_) (λhc11=>?_)
 ·omega
 iterate 3 refine AX ?_
 refine .cl rfl C240 (evs1 rfl) (acP _ _ (zH _) aA _) ?_;iterate 4 refine AX ?_
 refine .cx rfl (λhc16=>?_) (λhc16=>?_)
 ·omega
 iterate 4 refine AX ?_
 refine .cl rfl call189 (evs2 rfl rfl) (cmpB _ _ hx aA _) ?_;iterate 4 refine AX ?_
 refine .cx rfl (λhc20=>?_) (λhc20=>?_)
 ·have hlt:=bwM hc20;iterate 3 refine AX ?_
  refine .cl rfl C171 (evs1 rfl) (aoG _ _ (zH _) aA _) ?_;iterate 2 refine AM ?_
  iterate 7 refine AX ?_
  refine⟨?_,rfl⟩;rw[cD hlt,bH hlt,zN];rfl
 have hge:=ceW (a:=a) (b:=b) aA;iterate 6 refine AX ?_
 refine .cl rfl C194 (evs1 rfl) (cutB _ aA _) ?_;iterate 11 refine AX ?_
 refine .cx rfl (λhc31=>?_) (λhc31=>?_)
 ·obtain⟨hb1,_,hb2⟩:=chQ (b:=b) aA;have hg:(zF b).getD 0 0=b:=by rw[hb1];rfl
  have hml:=bR a hb0;iterate 3 refine AX ?_
  refine .s rfl (zB C171 (evs1 rfl) (bkW _ _ (zH _) aA _)) ?_;rintro _ _ ⟨b33,hb33,rfl,hH⟩;obtain rfl:=hH.symm;rw[zN];iterate 7 refine AX ?_
  refine .p rfl (zV (0) U159 Z210 (tm rfl) zJ aA aA) ?_;refine AX ?_;refine .s rfl (zB call201 (evs2 rfl rfl) (aqO b33 0 (zF a).length (zF a).length ((zF b).getD 0 0) aA aA (zF a) (zH _) aA aA _ (oS _ _ _))) ?_;rintro _ _ ⟨rfl,ws,hwl,hwL,hwv,hH⟩;obtain rfl:=hH.symm;rw[asC hwl,sS];rw[dL,aY aA,hg,zN]at *;iterate 4 refine AX ?_
  refine .frzU (t:=7) rfl hb33 aA (aZ _) (by simp only[zQ];omega) ?_;rw[aY (l:=ws) aA];iterate 2 refine AX ?_
  refine .cl rfl C194 (evs1 rfl) (aaG ws .shared hwL aA _) ?_;iterate 2 refine AX ?_
  refine .cl rfl C93 (evs1 rfl) (aeA _ aA _) ?_;iterate 8 refine AX ?_
  refine⟨?_,rfl⟩;rw[hwv];rfl
 iterate 5 refine AX ?_
 refine .cl rfl C194 (evs1 rfl) (cutB _ aA _) ?_;refine AX ?_;refine .cl rfl call303 (evs2 rfl rfl) (bnU _ _ aA aA aA _) ?_;iterate 18 refine AX ?_
 exact⟨rfl,rfl⟩
end
end Go.Proofs.YteedncdcbgplfaaGreatDoor
