import Derived.Test.YtmmgbnolccpjoaaGreatDoorN2
set_option maxHeartbeats 1000000
namespace Go.Proofs.YtmmgbnolccpjoaaGreatDoor
open Go.Proofs.Tryz
variable{qs us vs ws zs:List Nat}{A T V X c d j n r v v1 v2 x y:Nat}
theorem bbY(x:Nat):x&&&4294967295=x%4294967296:=dC x 32
def awF(u low br:Nat):Nat:=((u+(18446744073709551616-low%4294967296))%18446744073709551616+(18446744073709551616-br))%18446744073709551616
theorem bcZ{u low br:Nat}(hu:u<4294967296)(hb:br≤1):awF u low br/9223372036854775808≤1∧u+4294967296*(awF u low br/9223372036854775808)=awF u low br%4294967296+low%4294967296+br:=by
 unfold awF;have:low%4294967296<4294967296:=bU _ aC;generalize low%4294967296=l at *;omega
theorem bpJ{i br:Nat}(hi:i<ws.length)(hg:ws.getD i 0=us.getD i 0)(hu:us.getD i 0<4294967296)(hb:br≤1)
  (h:val (us.take i)+4294967296^i*(c+br)=val (ws.take i)+d*val (vs.take i)):
  val (us.take (i+1))+4294967296^(i+1)*((d*vs.getD i 0/4294967296+(d*vs.getD i 0%4294967296+c)/4294967296)+awF (us.getD i 0) (d*vs.getD i 0%4294967296+c) br/9223372036854775808)
   =val ((ws.set i (awF (us.getD i 0) (d*vs.getD i 0%4294967296+c) br%4294967296)).take (i+1))+d*val (vs.take (i+1)):=by
 obtain⟨_,e⟩:=bcZ (low:=d*vs.getD i 0%4294967296+c) hu hb;rw[ahA hi,yW us,yW vs,cA d,Nat.mul_left_comm d,bQ];generalize awF (us.getD i 0) (d*vs.getD i 0%4294967296+c) br/9223372036854775808=b2 at *;generalize awF (us.getD i 0) (d*vs.getD i 0%4294967296+c) br%4294967296=z at *;generalize us.getD i 0=u at *;generalize d*vs.getD i 0=p at *;generalize d*val (vs.take i)=dv at *;generalize 4294967296^i=B at *;have e2:u+4294967296*(p/4294967296+(p%4294967296+c)/4294967296+b2)=z+p+(c+br):=by omega
 have e3:B*(u+4294967296*(p/4294967296+(p%4294967296+c)/4294967296+b2))=B*(z+p+(c+br)):=by rw[e2]
 rw[cA,cA B,cA B,←bH]at e3;omega
theorem bhP{p:Nat}(hp:p≤18446744065119617025)(hc:c<4294967296):p/4294967296+(p%4294967296+c)/4294967296<4294967296:=by omega
theorem bbB(hd:d<4294967296)(hy:y<4294967296):d*y≤18446744065119617025:=by
 have:d*y≤4294967295*4294967295:=cS aA aA;exact this
theorem cdM{U:Nat}(hX:0<X)(hU:U<(T+1)*X)(hV:v1*X≤V)(h1:0<v1):U/V≤T/v1:=by
 rw[dJ h1];have h2:U/V*V≤U:=eZ U V;have h3:U/V*(v1*X)≤U/V*V:=bV _ hV;have h4:U/V*v1*X<(T+1)*X:=by rw[bH];omega
 have h5:=fF h4;omega
theorem brZ{U u2:Nat}(hX:0<X)(ht:d*v1+r=T)(hU:U<((T*4294967296+u2)+1)*X)(hV:(v1*4294967296+v2)*X≤V)(hx:r*4294967296+u2<d*v2):U/V<d:=by
 have h2:U/V*V≤U:=eZ U V;have h3:U/V*((v1*4294967296+v2)*X)≤U/V*V:=bV _ hV;have h4:U/V*(v1*4294967296+v2)*X<((T*4294967296+u2)+1)*X:=by rw[bH];omega
 have h5:=fF h4;have h6:T*4294967296+u2<d*(v1*4294967296+v2):=by
  rw[←ht,bT,cA,bH];omega
 have h7:U/V*(v1*4294967296+v2)<d*(v1*4294967296+v2):=by omega
 exact fF h7
theorem byF{U u2:Nat}(hX:0<X)(hd:d<4294967296)(hv1:2147483648≤v1)(ht:d*v1+r=T)(hU:(T*4294967296+u2)*X≤U)(hV:V<((v1*4294967296+v2)+1)*X)(hV2:(v1*4294967296+v2)*X≤V)(hx:d*v2≤r*4294967296+u2):d≤U/V+1:=by
 have h1:d*(v1*4294967296+v2)≤T*4294967296+u2:=by
  rw[←ht,bT,cA,bH];omega
 have h2:d*(v1*4294967296+v2)*X≤U:=aZ (bC _ h1) hU;have h3:d*V≤d*(((v1*4294967296+v2)+1)*X):=bV _ aA;have h4:d*(((v1*4294967296+v2)+1)*X)=d*(v1*4294967296+v2)*X+d*X:=by
  rw[bT,cA,cK,bH]
 have h5:d*X≤V:=by
  have:d*X≤(v1*4294967296+v2)*X:=bC _ aA;omega
 have hV0:0<V:=by
  have:0<(v1*4294967296+v2)*X:=fP aA hX;omega
 have h6:d*V≤U+V:=by omega
 have h7:(d-1)*V≤U:=by rw[Nat.sub_mul,cK];omega
 have h8:=(dJ hV0).2 h7;omega
theorem buG{U w b2 N:Nat}(hV:0<V)(hw:w<N)(hd1:U/V≤d)(hd2:d≤U/V+1)(hU:U<N)(h:U+N*b2=w+d*V)(hb:b2≤1):
  (b2=0→d=U/V∧w=U%V)∧(b2=1→d=U/V+1∧(w+V)%N=U%V):=by
 have e:=cH U V;have hm:=bU U hV;rw[bK]at e;generalize U/V=q at *;generalize U%V=m at *;rcases cG d (q+1)with h1|h1
 ·grind
 have:d=q+1:=by omega
 subst this;rw[bT,cK]at h;refine⟨λh0=>?_,λh0=>⟨rfl,?_⟩⟩
 ·grind
 subst h0;have:w+V=m+N:=by omega
 rw[this,Nat.add_mod_right,bE aA]
section
open Go Go.RowKit
set_option maxRecDepth 100000
def buF(vs:List Nat)(tl:Tail)(b o n cp d:Nat)(zs:List Nat)(H:Heap):Nat→Env→Heap→Prop:=λk env H1=>∃(i c br:Nat)(ws:List Nat),i≤n∧ws.length=n∧Limbs ws∧c<4294967296∧br≤1∧(∀j,i≤j→ws.getD j 0=((zs.drop o).take n).getD j 0)∧val (((zs.drop o).take n).take i)+4294967296^i*(c+br)=val (ws.take i)+d*val (vs.take i)∧(vs.length<i→c=0)∧env=[(0,.mslice (some ⟨b,o,none⟩) n cp),(1,.slice 1 (U .u32 vs) tl),(2,.int .u64 (d:Int)),(7,.int .u64 (c:Int)),(8,.int .u64 (br:Int)),(14,.int .i64 (n:Int)),(15,.int .i64 (i:Int))]∧H1=H.set b (.box 166 (U .u32 (mid zs o ws)))∧k=n-i
theorem bhQ(vs:List Nat)(tl:Tail)(hv:Limbs vs)(hl:vs.length≤1000000)(b o n cp d:Nat)(hd:d<4294967296)(hvn:vs.length<n)(zs:List Nat)(hz:Limbs zs)(hn:o+n≤zs.length)(hn2:n≤1000000)(H:Heap)(hb:H.objs b=some (.box 166 (U .u32 zs))):ACall prog 341 [.mslice (some ⟨b,o,none⟩) n cp,.slice 1 (U .u32 vs) tl,.int .u64 (d:Int)] H (λy H'=>∃(b2:Nat)(ws:List Nat),b2≤1∧ws.length=n∧Limbs ws∧val ((zs.drop o).take n)+4294967296^n*b2=val ws+d*val vs∧y= .bool (decide (0<b2))∧H'=H.set b (.box 166 (U .u32 (mid zs o ws)))):=by
 refine .of_body func341 rfl ntmps341 results341 rfl ?_;iterate 7 refine AX ?_
 iterate 2 refine AM ?_
 refine AY ?_;refine .loopW (buF vs tl b o n cp d zs H) (n) ⟨0,0,0,((zs.drop o).take n),Nat.zero_le _,by simp;omega,(hz.drop _).take _,by omega,by omega,λj _=>rfl,by simp[val],λh=>rfl,rfl,(Heap.set_self (by rw[arW hn];exact hb)).symm,rfl⟩ sX (hRa _) ?_;rintro _ _ _ ⟨i,c,br,ws,hi,hw,hwl,hc,hbr,hg,hval,hc0,rfl,rfl,hk⟩;refine AY ?_;refine .cx rfl (λhc16=>?_) (λhc16=>?_)
 ·have hy:=Limbs.getD hv i;have hdy:=bbB hd hy;have hal:=bbY (d*vs.getD i 0);have hal2:=bbY (d*vs.getD i 0%4294967296+c);have hcc:=bhP hdy hc;have hu:=Limbs.getD ((hz.drop o).take n) i;have hml:=agQ (o:=o) hw hn;have hgi:=hg i (aV i);have hgm:=(bjN (zs:=zs) (o:=o) (i:=i) aA (by omega:i<ws.length)).trans hgi;have hgz:=Limbs.getD (afC (o:=o) hz hwl) (o+i);obtain⟨hx1,hx2⟩:=bcZ (low:=(d*vs.getD i 0%4294967296+c)) hu hbr;have hst:=bpJ (by omega:i<ws.length) hgi hu hbr hval;have hX:awF (((zs.drop o).take n).getD i 0) (d*vs.getD i 0%4294967296+c) br<18446744073709551616:=bU _ aC;iterate 12 refine AX ?_
  refine AM ?_;iterate 2 refine AX ?_
  refine .seqToL [(10,.int .u64 ((d*vs.getD i 0:Nat):Int))] [0,1,2,7,8,14,15,9] ?_ ?_
  ·refine AY ?_;refine .cx rfl (λhc21=>?_) (λhc21=>?_)
   ·refine AY ?_;refine .p rfl (zW (i) U239 Z166 (tm rfl) (tm rfl) aA aA) ?_;refine AY ?_;exact⟨rfl,(zM rfl aD sX),rfl⟩
   refine AX ?_;exact⟨rfl,(zM rfl (by(rw[ahM aA,dQ])) sX),rfl⟩
  refine .sub [(10,_),(0,_),(1,_),(2,_),(7,_),(8,_),(14,_),(15,_),(9,_)] sX ?_;refine .seqToL [(11,.int .u64 (((d*vs.getD i 0%4294967296+c):Nat):Int))] [10,0,1,2,7,8,14,15,9] ?_ ?_
  ·refine AY ?_;refine AM ?_;refine AY ?_;exact⟨rfl,(zM rfl (by rw[bbY]) sX),rfl⟩
  refine .sub [(11,_),(10,_),(0,_),(1,_),(2,_),(7,_),(8,_),(14,_),(15,_),(9,_)] sX ?_;refine .seqToL [(7,.int .u64 ((d*vs.getD i 0/4294967296+(d*vs.getD i 0%4294967296+c)/4294967296:Nat):Int))] [11,0,1,2,8,14,15,9] ?_ ?_
  ·refine AY ?_;refine AM ?_;refine AX ?_;refine AM ?_;refine AY ?_;exact⟨rfl,(zM rfl aD sX),rfl⟩
  refine .sub [(7,_),(11,_),(0,_),(1,_),(2,_),(8,_),(14,_),(15,_),(9,_)] sX ?_;refine .seqToL [(12,.int .u64 ((awF (((zs.drop o).take n).getD i 0) (d*vs.getD i 0%4294967296+c) br:Nat):Int))] [7,0,1,2,8,14,15,9] ?_ ?_
  ·refine AY ?_;refine .p rfl (acI (i) U239 Z166 (tm rfl) (tm rfl) aA aA) (.e rfl (yZ G166 (tm rfl) (oS _ _ _) aA) ?_);refine AY ?_;refine AM ?_;refine AY ?_;exact⟨rfl,(zM rfl (by rw[hgm,bbY];rfl) sX),rfl⟩
  refine .sub [(12,_),(7,_),(0,_),(1,_),(2,_),(8,_),(14,_),(15,_),(9,_)] sX ?_;iterate 6 refine AX ?_
  refine AM ?_;refine .p rfl (acI (i) U239 Z166 (tm rfl) (tm rfl) aA aA) (.e0 (yU Z166 (tm rfl) (tm rfl) (oS _ _ _) aA) ?_);try first|rw[sS]|rw[sU aB]
  refine AY ?_;refine Round.mk ⟨i+1,_,_,_,by omega,by simpa using hw,Limbs.set hwl (bU _ aC),hcc,hx1,λj hj=>by rw[getD_set_ne aA];exact hg j aA,hst,λh=>by rw[ahM aA,dQ];omega,rfl,by rw[bbD aA aA];rfl,rfl⟩ sX (hRa _) aA
 iterate 8 refine AX ?_
 refine AM ?_;refine AY ?_;have hin:i=n:=by omega
 subst hin;rw[hc0 hvn,bZ,bA aG,bA (l:=ws) aA,bA (l:=vs) aA]at hval;exact⟨br,ws,hbr,hw,hwl,hval,by simp[yD],rfl⟩
def byI(vs:List Nat)(tl:Tail)(b o n cp:Nat)(zs:List Nat)(H:Heap):Nat→Env→Heap→Prop:=λk env H1=>∃(i c:Nat)(ws:List Nat),i≤n∧ws.length=n∧Limbs ws∧c≤1∧(∀j,i≤j→ws.getD j 0=((zs.drop o).take n).getD j 0)∧val (ws.take i)+4294967296^i*c=val (((zs.drop o).take n).take i)+val (vs.take i)∧env=[(0,.mslice (some ⟨b,o,none⟩) n cp),(1,.slice 1 (U .u32 vs) tl),(4,.int .u32 (c:Int)),(8,.int .i64 (n:Int)),(9,.int .i64 (i:Int))]∧H1=H.set b (.box 166 (U .u32 (mid zs o ws)))∧k=n-i
theorem bjZ(vs:List Nat)(tl:Tail)(hv:Limbs vs)(hl:vs.length≤1000000)(b o n cp:Nat)(hvn:vs.length<n)(zs:List Nat)(hz:Limbs zs)(hn:o+n≤zs.length)(hn2:n≤1000000)(H:Heap)(hb:H.objs b=some (.box 166 (U .u32 zs))):ACall prog 342 [.mslice (some ⟨b,o,none⟩) n cp,.slice 1 (U .u32 vs) tl] H (λ_ H'=>∃(ws:List Nat),ws.length=n∧Limbs ws∧val ws=(val ((zs.drop o).take n)+val vs)%4294967296^n∧H'=H.set b (.box 166 (U .u32 (mid zs o ws)))):=by
 refine ACall.of_body func342 rfl ntmps342 results342 rfl ?_;iterate 2 refine AX ?_
 refine AM ?_;refine AY ?_;refine AWP.loopW (byI vs tl b o n cp zs H) (n) ⟨0,0,((zs.drop o).take n),Nat.zero_le _,by simp;omega,(hz.drop _).take _,by omega,λj _=>rfl,by simp[val],rfl,(Heap.set_self (by rw[arW hn];exact hb)).symm,rfl⟩ sX (hRa _) ?_;rintro _ _ _ ⟨i,c,ws,hi,hw,hwl,hc,hg,hval,rfl,rfl,hk⟩;refine AY ?_;refine AWP.cx rfl (λhc10=>?_) (λhc10=>?_)
 ·have hy:=Limbs.getD hv i;have hu:=Limbs.getD ((hz.drop o).take n) i;have hml:=agQ (o:=o) hw hn;have hgi:=hg i (aV i);have hgm:=(bjN (zs:=zs) (o:=o) (i:=i) aA (by omega:i<ws.length)).trans hgi;have hgz:=Limbs.getD (afC (o:=o) hz hwl) (o+i);iterate 12 refine AX ?_
  refine AM ?_;iterate 2 refine AX ?_
  refine AWP.seqToL [(6,.int .u32 ((vs.getD i 0:Nat):Int))] [0,1,4,8,9,5] ?_ ?_
  ·refine AY ?_;refine AWP.cx rfl (λhc15=>?_) (λhc15=>?_)
   ·refine AY ?_;refine .p rfl (zW (i) U239 Z166 (tm rfl) (tm rfl) aA aA) ?_;refine AY ?_;exact⟨rfl,(zM rfl aD sX),rfl⟩
   refine AX ?_;exact⟨rfl,(zM rfl (by(rw[ahM aA]<;>rfl)) sX),rfl⟩
  refine AWP.sub [(6,_),(0,_),(1,_),(4,_),(8,_),(9,_),(5,_)] sX ?_;refine AY ?_;refine .p rfl (acI (i) U239 Z166 (tm rfl) (tm rfl) aA aA) (.e rfl (yZ G166 (tm rfl) (oS _ _ _) aA) ?_);refine AY ?_;refine .cl rfl call339 (evs3 rfl rfl rfl) (awC _ _ _ aB aB aA _) ?_;refine AY ?_;refine .p rfl (acI (i) U239 Z166 (tm rfl) (tm rfl) aA aA) (.e0 (yU Z166 (tm rfl) (tm rfl) (oS _ _ _) aA) ?_);try first|rw[sS]|rw[sU aB]
  refine AY ?_;rw[hgm];refine Round.mk (J:=byI vs tl b o n cp zs H) ⟨i+1,_,_,by omega,by simpa using hw,Limbs.set hwl (bU _ aC),by omega,λj hj=>by rw[getD_set_ne aA];exact hg j aA,boV aA hval,rfl,by rw[bbD aA aA],rfl⟩ sX (hRa _) aA
 refine AY ?_;refine Ret.go' .nil _ (hRa _) ?_;have hin:i=n:=by omega
 subst hin;rw[bA (l:=((zs.drop o).take i)) aG,bA (l:=vs) aA]at hval;exact⟨ws,hw,hwl,blR hwl hw hval,rfl⟩
end
theorem aiR{k:Nat}(h:k<zs.length):val (zs.drop k)=zs.getD k 0+4294967296*val (zs.drop (k+1)):=by
 rw[cD h,val,aR,bG h];rfl
theorem cjF{xs:List Nat}{o:Nat}(hl:ws.length=xs.length)(ho:o≤zs.length):mid (mid zs o ws) o xs=mid zs o xs:=by
 have e:(zs.take o).length=o:=by rw[aS];omega
 unfold mid;congr 1
 ·grind
 rw[List.drop_append,eJ aG,cJ,fY,hl];congr 1;simp;omega
theorem chF{o:Nat}(ho:o≤zs.length):val (mid zs o ws)=val (zs.take o)+4294967296^o*(val ws+4294967296^ws.length*val (zs.drop (o+ws.length))):=by
 unfold mid;rw[aQ,qS,qS,aS,dN ho]
theorem bcX{l M:Nat}(h:l<X):M*X≤l+X*M∧l+X*M<(M+1)*X:=by
 grind
theorem top2(hn:2≤n)(hv:vs.length=n)(hl:Limbs vs):
  (vs.getD (n-1) 0*4294967296+vs.getD (n-2) 0)*4294967296^(n-2)≤val vs∧val vs<(vs.getD (n-1) 0*4294967296+vs.getD (n-2) 0+1)*4294967296^(n-2):=by
 have h1:=ahB (xs:=vs) (k:=n-2) aA;have h2:=aoX hl (k:=n-2) aA;have h3:=aiR (zs:=vs) (k:=n-2) aA;have h4:=aiR (zs:=vs) (k:=n-2+1) aA;rw[show n-2+1=n-1 by omega]at *;rw[eJ (i:=n-1+1) aA,val]at h4;rw[h3,h4]at h1;generalize 4294967296^(n-2)=X at *;generalize vs.getD (n-1) 0=a at *;generalize vs.getD (n-2) 0=b at *;rw[show b+4294967296*(a+4294967296*0)=a*4294967296+b by omega]at h1;rw[h1];exact bcX h2
theorem top3(hn:2≤n)(hv:us.length=n+1)(hl:Limbs us):
  ((us.getD n 0*4294967296+us.getD (n-1) 0)*4294967296+us.getD (n-2) 0)*4294967296^(n-2)≤val us∧val us<((us.getD n 0*4294967296+us.getD (n-1) 0)*4294967296+us.getD (n-2) 0+1)*4294967296^(n-2):=by
 have h1:=ahB (xs:=us) (k:=n-2) aA;have h2:=aoX hl (k:=n-2) aA;have h3:=aiR (zs:=us) (k:=n-2) aA;have h4:=aiR (zs:=us) (k:=n-2+1) aA;have h5:=aiR (zs:=us) (k:=n-2+1+1) aA;rw[eJ (i:=n-2+1+1+1) aA,val]at h5;rw[h3,h4,h5]at h1;rw[show n-2+1+1=n by omega,show n-2+1=n-1 by omega]at h1;generalize 4294967296^(n-2)=X at *;generalize us.getD n 0=c at *;generalize us.getD (n-1) 0=a at *;generalize us.getD (n-2) 0=b at *;rw[show b+4294967296*(a+4294967296*(c+4294967296*0))=(c*4294967296+a)*4294967296+b by omega]at h1;rw[h1];exact bcX h2
theorem bdQ(hz:Limbs zs)(hj:j+(n+1)≤zs.length)(hV:V<4294967296^n)(h:val zs<V*4294967296^(j+1)):
  val (zs.drop (j+(n+1)))=0∧val zs=val (zs.take j)+4294967296^j*val ((zs.drop j).take (n+1)):=by
 have h1:=ahB (xs:=zs) (k:=j) aA;have h2:=ahB (xs:=zs.drop j) (k:=n+1) aG;rw[fY]at h2;have h3:V*4294967296^(j+1)≤4294967296^j*4294967296^(n+1):=by
  rw[bQ,bQ,bK V,bH,bK 4294967296 V];exact bV _ (bC _ (cT hV))
 have h0:val (zs.drop (j+(n+1)))=0:=by
  rcases bJ (val (zs.drop (j+(n+1))))with h4|h4
  ·exact h4
  exfalso;have h5:4294967296^(n+1)*1≤4294967296^(n+1)*val (zs.drop (j+(n+1))):=bV _ h4;have h6:4294967296^j*4294967296^(n+1)≤4294967296^j*val (zs.drop j):=bV _ aA;omega
 rw[h0,dQ,cB]at h2;exact⟨h0,by rw[h1,h2]⟩
theorem bxI(hz:Limbs zs)(hj:j+(n+1)≤zs.length)(hV:V<4294967296^n)(h0:0<V)(h:val zs<V*4294967296^(j+1))(hw:ws.length=n+1)(hv:val ws=val ((zs.drop j).take (n+1))%V)
  (hq:j<qs.length)(hA:A=val (qs.drop (j+1))*V*4294967296^(j+1)+val zs):
  val (mid zs j ws)<V*4294967296^j∧A=val ((qs.set j (val ((zs.drop j).take (n+1))/V)).drop j)*V*4294967296^j+val (mid zs j ws):=by
 obtain⟨hr,he⟩:=bdQ hz hj hV h;have ht:=aoX hz (k:=j) aA;rw[chF aA,hw,hr,dQ,cB,hv];have hq2:val ((qs.set j (val ((zs.drop j).take (n+1))/V)).drop j)=val ((zs.drop j).take (n+1))/V+4294967296*val (qs.drop (j+1)):=by
  rw[aiR (by simpa using hq),bbI hq,List.drop_set_of_lt aA]
 rw[hq2];generalize val ((zs.drop j).take (n+1))=U at *;have hm:=bU U h0;have hd:=cH U V;constructor
 ·have:4294967296^j*(U%V+1)≤4294967296^j*V:=bV _ hm;rw[cA,fG]at this;rw[bK V];omega
 grind
theorem ccF(hz:Limbs zs)(hj:j+(n+1)≤zs.length)(hV:V<4294967296^n)(h:val zs<V*4294967296^(j+1)):val ((zs.drop j).take (n+1))<V*4294967296:=by
 obtain⟨_,he⟩:=bdQ hz hj hV h;have:4294967296^j*val ((zs.drop j).take (n+1))<4294967296^j*(V*4294967296):=by
  rw[bQ,←bH,bK V,bH]at h;omega
 exact Nat.lt_of_mul_lt_mul_left this
section
open Go Go.RowKit
set_option maxRecDepth 100000
def azE(A V j:Nat)(zs qs:List Nat):Prop:=val zs<V*4294967296^j∧A=val (qs.drop j)*V*4294967296^j+val zs
def caE(vs:List Nat)(n:Nat):Prop:=2147483648*4294967296^(n-1)≤val vs∧val vs<4294967296^n
theorem apC(h:x<4294967296):x*2^32<18446744073709551616:=by
 rw[show(2:Nat)^32=4294967296 by decide];omega
theorem cnF(h:d*v+r=T)(hT:T<18446744073709551616)(hv:0<v):d<18446744073709551616:=by
 have:d*1≤d*v:=bV _ hv;omega
theorem ciE(h:r<4294967296)(k:v<4294967296):r+v<18446744073709551616:=by omega
theorem cmM(h:x<4294967296)(k:y<4294967296):x*2^32|||y<18446744073709551616:=by
 rw[akM (k:=32) (dE k aC),show(2:Nat)^32=4294967296 by decide];omega
theorem big32(h:x<4294967296):x<18446744073709551616:=by omega
theorem chK(h:x<4294967296)(k:y<4294967296):x*4294967296+y<18446744073709551616:=by omega
theorem cjA{s:Nat}(hy:0<y)(hn:(zE y).length=n)(hs:32-zY ((zE y).getD (n-1) 0)=s):s<32∧2147483648*4294967296^(n-1)≤y*2^s∧y*2^s<4294967296^n:=by
 have h1:=alM hy;rw[hn]at h1;have h2:0<zY y:=by rw[ceR hy];omega
 have h3:=(yQ (n:=(zE y).getD (n-1) 0) (k:=32)).2 (Limbs.getD (zF y) _);have hn0:0<n:=by rw[←hn,qR hy];simp
 have h4:y<2^zY y:=yQ.1 (aV _);have h5:2^(zY y-1)≤y:=by
  rcases cG y (2^(zY y-1))with h|h
  ·have:=yQ.2 h;omega
  exact h
 have h6:0<zY ((zE y).getD (n-1) 0):=by
  rcases bJ (zY ((zE y).getD (n-1) 0))with h|h
  ·exfalso;have h7:=yQ.1 (Nat.le_of_eq h);have h8:(zE y).getD (n-1) 0=0:=by simpa using h7
   have h9:=acS (xs:=zE y) (k:=n-1) aA;rw[aN h8,bA aA,ajF,hn]at h9;have h10:=aaU ((zE y).take (n-1));rw[←h9,aS]at h10;omega
  exact h
 have e1:(4294967296:Nat)^n=2^(zY y+s):=by rw[show(4294967296:Nat)=2^32 by decide,←eE];congr 1;omega
 have e2:2147483648*4294967296^(n-1)=2^(zY y-1+s):=by rw[show(4294967296:Nat)=2^32 by decide,show(2147483648:Nat)=2^31 by decide,←eE,←bI];congr 1;omega
 refine⟨by omega,?_,?_⟩
 ·rw[e2,bI];exact bC _ h5
 rw[e1,bI];exact eD h4 (bO aC)
theorem brM{s m la:Nat}(hx:x<4294967296^la)(hs:s<32)(hm:la=n+m)(hn:0<n)(hV:2147483648*4294967296^(n-1)≤y*2^s):x*2^s<y*2^s*4294967296^(m+1)∧x*2^s<4294967296^(la+1):=by
 have h1:2^s≤2^31:=aW aC aA;have h2:x*2^s<4294967296^la*2147483648:=Nat.mul_lt_mul_of_lt_of_le hx h1 aC;constructor
 ·have h3:4294967296^la*2147483648≤y*2^s*4294967296^(m+1):=by
   rw[show 4294967296^la=4294967296^(n-1)*4294967296^(m+1) by rw[←bI];congr 1;omega,Nat.mul_right_comm];exact bC _ (by rw[bK];exact hV)
  exact bM h2 h3
 rw[bQ];exact bM h2 (bV _ aC)
theorem cdD(h:y≤x):(zE y).length≤(zE x).length:=qK.2 (aU h (qK.1 (aV _)))
theorem ccZ{s Q R:Nat}(hV:V=y*2^s)(hlt:R<V)(hA:x*2^s=Q*V+R):Q=x/y∧R=x%y*2^s:=by
 have h1:x*2^s/V=Q:=by rw[hA,bK,fK aA,bW hlt,cB]
 have h2:x*2^s%V=R:=by rw[hA,bK,fJ,bE hlt]
 rw[hV,eP _ _ (bO aC)]at h1;rw[hV,fL]at h2;exact⟨h1.symm,h2.symm⟩
theorem Heap.fresh_inv{H:Heap}{b:Nat}{x:AObj}(h:(H.set b x).objs c=none):H.objs c=none:=by
 rwa[oN _ _ (Ne.symm (Heap.fresh_ne h))]at h
theorem buH{rs A:List Nat}{i:Nat}(hi:i<rs.length)(hA:i<A.length)(h:rs.take i=A.take i)(hv:v=A.getD i 0):(rs.set i v).take (i+1)=A.take (i+1):=by
 subst hv;have h1:i<(rs.set i (A.getD i 0)).length:=by simpa using hi
 rw[←cV h1,←cV hA,List.take_set_of_le (aV _),h,List.getElem_set_self,aR,bG hA];rfl
theorem bsR{U u2:Nat}(hU1:(T*4294967296+u2)*X≤U)(hU2:U<(T*4294967296+u2+1)*X)(hV1:(v1*4294967296+v2)*X≤V)(hV2:V<(v1*4294967296+v2+1)*X)(hpl:U<V*4294967296)
  (hu2:u2<4294967296)(hv2:v2<4294967296)(hV:2147483648*(4294967296*X)≤V)(hX:0<X):
  2147483648≤v1∧T<(v1+1)*4294967296∧0<V∧U/V<4294967296∧U/V≤T/v1∧(∀d r,d*v1+r=T→r*4294967296+u2<d*v2→U/V<d)∧(∀d r,d<4294967296→d*v1+r=T→d*v2≤r*4294967296+u2→d≤U/V+1):=by
 have hv1:2147483648≤v1:=by
  have h1:2147483648*4294967296*X<(v1*4294967296+v2+1)*X:=by rw[bH];omega
  have h2:=fF h1;omega
 have hV0:0<V:=by
  have:0<(v1*4294967296+v2)*X:=fP aA hX;omega
 refine⟨hv1,?_,hV0,?_,?_,?_,?_⟩
 ·have h1:(T*4294967296+u2)*X<((v1*4294967296+v2+1)*4294967296)*X:=by
   rw[Nat.mul_right_comm _ 4294967296 X];omega
  have h2:=fF h1;omega
 ·rw[bR hV0,bK];exact hpl
 ·refine cdM (X:=4294967296*X) aA ?_ ?_ aA
  ·have h1:(T*4294967296+u2+1)*X≤((T+1)*4294967296)*X:=bC _ aA;rw[bH (T+1)]at h1;omega
  have h1:(v1*4294967296)*X≤(v1*4294967296+v2)*X:=bC _ aA;rw[bH v1]at h1;omega
 ·intro d r hdr hx;exact brZ hX hdr hU2 hV1 hx
 intro d r hd hdr hx;exact byF hX hd hv1 hdr hU1 hV2 hV1 hx
theorem bkH(hn:2≤n)(hz:Limbs zs)(hj:j+(n+1)≤zs.length)(hvl:vs.length=n)(hv:Limbs vs)(hN:caE vs n)(hO:azE A (val vs) (j+1) zs qs):
  2147483648≤vs.getD (n-1) 0∧zs.getD (j+n) 0*4294967296+zs.getD (j+(n-1)) 0<(vs.getD (n-1) 0+1)*4294967296∧0<val vs∧val ((zs.drop j).take (n+1))/val vs<4294967296∧
  val ((zs.drop j).take (n+1))/val vs≤(zs.getD (j+n) 0*4294967296+zs.getD (j+(n-1)) 0)/vs.getD (n-1) 0∧
  (∀d r,d*vs.getD (n-1) 0+r=zs.getD (j+n) 0*4294967296+zs.getD (j+(n-1)) 0→r*4294967296+zs.getD (j+(n-2)) 0<d*vs.getD (n-2) 0→val ((zs.drop j).take (n+1))/val vs<d)∧
  (∀d r,d<4294967296→d*vs.getD (n-1) 0+r=zs.getD (j+n) 0*4294967296+zs.getD (j+(n-1)) 0→d*vs.getD (n-2) 0≤r*4294967296+zs.getD (j+(n-2)) 0→d≤val ((zs.drop j).take (n+1))/val vs+1):=by
 obtain⟨hV,hVn⟩:=hN;obtain⟨h,_⟩:=hO;have hPl:((zs.drop j).take (n+1)).length=n+1:=by simp;omega
 have hPL:Limbs ((zs.drop j).take (n+1)):=(hz.drop _).take _;obtain⟨hU1,hU2⟩:=top3 hn hPl hPL;obtain⟨hV1,hV2⟩:=top2 hn hvl hv;rw[aiO aA,aiO aA,aiO aA]at hU1 hU2;have hpl:=ccF (j:=j) hz hj hVn h;have hu2:=Limbs.getD hz (j+(n-2));have hv2:=Limbs.getD hv (n-2);have hXe:4294967296^(n-1)=4294967296*4294967296^(n-2):=by rw[←Nat.pow_succ',show(n-2).succ=n-1 by omega]
 have hX:0<4294967296^(n-2):=bO aC;rw[hXe]at hV;exact bsR hU1 hU2 hV1 hV2 hpl hu2 hv2 hV hX
theorem blA{b2:Nat}(hz:Limbs zs)(hj:j+(n+1)≤zs.length)(hV:0<V)(hw:ws.length=n+1)(hwL:Limbs ws)(hd1:val ((zs.drop j).take (n+1))/V≤d)(hd2:d≤val ((zs.drop j).take (n+1))/V+1)(h:val ((zs.drop j).take (n+1))+4294967296^(n+1)*b2=val ws+d*V)(hb:b2≤1):
  (b2=0→d=val ((zs.drop j).take (n+1))/V∧val ws=val ((zs.drop j).take (n+1))%V)∧(b2=1→d=val ((zs.drop j).take (n+1))/V+1∧(val ws+V)%4294967296^(n+1)=val ((zs.drop j).take (n+1))%V):=by
 have hPl:((zs.drop j).take (n+1)).length=n+1:=by simp;omega
 have hPL:Limbs ((zs.drop j).take (n+1)):=(hz.drop _).take _;have hU3:=agG hPL;have hwlt:=agG hwL;rw[hPl]at hU3;rw[hw]at hwlt;exact buG hV hwlt hd1 hd2 hU3 h hb
theorem brN(hz:Limbs zs)(hj:j+(n+1)≤zs.length)(hN:caE vs n)(h0:0<val vs)(hO:azE A (val vs) (j+1) zs qs)(hw:ws.length=n+1)(hv:val ws=val ((zs.drop j).take (n+1))%val vs)(hq:j<qs.length):
  azE A (val vs) j (mid zs j ws) (qs.set j (val ((zs.drop j).take (n+1))/val vs)):=bxI hz hj hN.2 h0 hO.1 hw hv hq hO.2
theorem bxK{s:Nat}(hV:val vs=y*2^s)(hO:azE (x*2^s) (val vs) 0 zs qs):val zs<val vs∧val qs=x/y∧val zs=x%y*2^s:=by
 obtain⟨h1,h2⟩:=hO;rw[dI,fG]at h1;rw[dI,fG,cU]at h2;obtain⟨h3,h4⟩:=ccZ hV h1 h2;exact⟨h1,h3,h4⟩
theorem brP{s m la:Nat}(hx:(zE x).length=la)(hy:0<y)(hs:s<32)(hm:la=n+m)(hn:0<n)(h2:2147483648*4294967296^(n-1)≤y*2^s)(h3:y*2^s<4294967296^n)(hv:val vs=val (zE y)*2^s%4294967296^n)(hu:val us=val (zE x)*2^s%4294967296^(la+1)):
  val vs=y*2^s∧caE vs n∧azE (x*2^s) (val vs) (m+1) us (List.replicate (m+1) 0):=by
 obtain⟨hst1,hst2⟩:=brM (qK.1 (Nat.le_of_eq hx)) hs hm hn h2;have hV:val vs=y*2^s:=by rw[hv,zG,bE h3]
 have hU:val us=x*2^s:=by rw[hu,zG,bE hst2]
 refine⟨hV,⟨by rw[hV];exact h2,by rw[hV];exact h3⟩,by rw[hU,hV];exact hst1,?_⟩;rw[eJ aF,val,dV,dV,bZ,hU]
theorem ceO(ht:d*v1+r=T)(hT:T<(v1+1)*4294967296)(hr:r<4294967296)(hb:4294967296≤r+v1)(hd:0<d)(hv:0<v1):d-1<4294967296:=by
 rcases cG (d-1) 4294967296 with h|h
 ·exact h
 exfalso;have h1:(4294967296+1)*v1≤d*v1:=bC _ aA;rw[bT]at h1 hT;omega
theorem ckO(hd:0<d)(h:d*v1+r=T):(d-1)*v1+(r+v1)=T:=by
 obtain⟨e,rfl⟩:∃e,d=e+1:=⟨d-1,by omega⟩;rw[bT]at h;rw[gA];omega
theorem cbF{s:Nat}(hz:Limbs zs)(hs:s<32)(hn:n≤zs.length)(hV:V<4294967296^n)(h:val zs<V):val ((azR s zs).take n)=val zs/2^s:=by
 have h1:=ahB (xs:=azR s zs) (k:=n) (by rw[arQ];exact hn);rw[azQ aA hz]at h1;have h2:val zs/2^s≤val zs:=cY _ _;have h3:val ((azR s zs).drop n)=0:=by
  rcases bJ (val ((azR s zs).drop n))with h|h
  ·exact h
  have:4294967296^n*1≤4294967296^n*val ((azR s zs).drop n):=bV _ h;omega
 rw[h3]at h1;omega
def cgO(s n m b38 b49:Nat)(vs:List Nat)(A:Nat)(H:Heap):Nat→Env→Heap→Prop:=λk env H1=>∃(i:Nat)(zs qs:List Nat),i≤m+1∧zs.length=n+m+1∧Limbs zs∧qs.length=m+1∧Limbs qs∧azE A (val vs) (m+1-i) zs qs∧env=[(6,.int .i64 (s:Int)),(7,.int .i64 (n:Int)),(8,.int .i64 (m:Int)),(9,.slice 1 (U .u32 vs) .shared),(10,.mslice (some ⟨b38,0,none⟩) (n+m+1) (n+m+1)),(11,.mslice (some ⟨b49,0,none⟩) (m+1) (m+1)),(51,.int .i64 ((m:Int)+1)),(52,.int .i64 (i:Int))]∧H1=(H.set b38 (.box 166 (U .u32 zs))).set b49 (.box 166 (U .u32 qs))∧k=m+1-i
def bxM(s n m b38 b49 i T:Nat)(vs zs qs:List Nat)(H:Heap):Nat→Env→Heap→Prop:=λk env H1=>∃(d r:Nat),d*vs.getD (n-1) 0+r=T∧r<4294967296∧(val ((zs.drop (m-i)).take (n+1))/val vs)≤d∧env=[(15,.int .u64 (d:Int)),(16,.int .u64 (r:Int)),(13,.int .i64 ((m-i:Nat):Int)),(6,.int .i64 (s:Int)),(7,.int .i64 (n:Int)),(8,.int .i64 (m:Int)),(9,.slice 1 (U .u32 vs) .shared),(10,.mslice (some ⟨b38,0,none⟩) (n+m+1) (n+m+1)),(11,.mslice (some ⟨b49,0,none⟩) (m+1) (m+1)),(51,.int .i64 ((m:Int)+1)),(52,.int .i64 (i:Int))]∧H1=(H.set b38 (.box 166 (U .u32 zs))).set b49 (.box 166 (U .u32 qs))∧k=d
def bjS(s n m b38 b49 i:Nat)(vs zs qs:List Nat)(H:Heap):Env→Heap→Prop:=λenv H1=>∃d:Nat,d<4294967296∧(val ((zs.drop (m-i)).take (n+1))/val vs)≤d∧d≤(val ((zs.drop (m-i)).take (n+1))/val vs)+1∧env=[(15,.int .u64 (d:Int)),(13,.int .i64 ((m-i:Nat):Int)),(6,.int .i64 (s:Int)),(7,.int .i64 (n:Int)),(8,.int .i64 (m:Int)),(9,.slice 1 (U .u32 vs) .shared),(10,.mslice (some ⟨b38,0,none⟩) (n+m+1) (n+m+1)),(11,.mslice (some ⟨b49,0,none⟩) (m+1) (m+1)),(51,.int .i64 ((m:Int)+1)),(52,.int .i64 (i:Int))]∧H1=(H.set b38 (.box 166 (U .u32 zs))).set b49 (.box 166 (U .u32 qs))
def bjR(s n m b38 b49 i:Nat)(vs zs qs:List Nat)(H:Heap):Env→Heap→Prop:=λenv H1=>∃ws:List Nat,ws.length=n+1∧Limbs ws∧val ws=val ((zs.drop (m-i)).take (n+1))%val vs∧env=[(15,.int .u64 (((val ((zs.drop (m-i)).take (n+1))/val vs):Nat):Int)),(13,.int .i64 ((m-i:Nat):Int)),(6,.int .i64 (s:Int)),(7,.int .i64 (n:Int)),(8,.int .i64 (m:Int)),(9,.slice 1 (U .u32 vs) .shared),(10,.mslice (some ⟨b38,0,none⟩) (n+m+1) (n+m+1)),(11,.mslice (some ⟨b49,0,none⟩) (m+1) (m+1)),(51,.int .i64 ((m:Int)+1)),(52,.int .i64 (i:Int))]∧H1=(H.set b38 (.box 166 (U .u32 (mid zs (m-i) ws)))).set b49 (.box 166 (U .u32 qs))
def bxL(n s b157:Nat)(zs:List Nat)(e:Env)(H:Heap):Nat→Env→Heap→Prop:=λk env H1=>∃(i:Nat)(rs:List Nat),i≤n∧rs.length=n∧Limbs rs∧rs.take i=(azR s zs).take i∧env=[(6,.int .i64 (s:Int)),(10,.slice 1 (U .u32 zs) .shared),(17,.mslice (some ⟨b157,0,none⟩) n n),(158,.int .i64 (n:Int)),(159,.int .i64 (i:Int))]++e∧H1=H.set b157 (.box 166 (U .u32 rs))∧k=n-i
set_option maxHeartbeats 4000000 in
theorem brO(x y:Nat)(hy:2≤(zE y).length)(hxy:y≤x)(hx:x<BIG)(H:Heap):ACall prog 318 [qL x,qL y] H (λz H'=>z= .tuple [qL (x/y),qL (x%y)]∧H'=H):=by
 have hy256:=yI (n:=y) aA;have hx256:=yI hx;have hxl:=cdD hxy;have hy0:0<y:=by
  rcases bJ y with h|h
  ·rw[h,aaX]at hy;simp at hy
  exact h
 refine .of_body func318 rfl ntmps318 results318 rfl ?_;iterate 2 refine AX ?_
 iterate 2 refine AM ?_
 refine AY ?_;refine .p rfl (zW ((zE y).length-1) U239 Z166 (tm rfl) (tm rfl) aA aA) ?_;refine AX ?_;refine .cl rfl call340 (evs1 rfl) (btK _ (Limbs.getD (zF _) _) _) ?_;iterate 3 refine AX ?_
 refine .seqToL [(7,.int .i64 (((zE y).length:Nat):Int)),(8,.int .i64 (((zE x).length-(zE y).length:Nat):Int))] [0,1,4,5,6] ?_ ?_
 ·refine AY ?_;exact⟨rfl,(zM rfl aD (zM rfl (by(congr 1;omega)) sX)),rfl⟩
 refine .sub [(7,_),(8,_),(0,_),(1,_),(4,_),(5,_),(6,_)] sX ?_;generalize hs:32-zY ((zE y).getD ((zE y).length-1) 0)=s;obtain⟨hs1,hs2,hs3⟩:=cjA hy0 rfl hs;generalize hn:(zE y).length=n at *;generalize hmm:(zE x).length-n=m at *;have hla:(zE x).length=n+m:=by omega
 refine .meet (λenv H1=>∃b34 b38:Nat,b34≠b38∧H.objs b34=none∧H.objs b38=none∧env=[(0,qL x),(1,qL y),(6,.int .i64 (s:Int)),(7,.int .i64 (n:Int)),(8,.int .i64 (m:Int)),(9,.mslice (some ⟨b34,0,none⟩) n n),(10,.mslice (some ⟨b38,0,none⟩) (n+m+1) (n+m+1))]∧H1=(H.set b34 (.box 166 (U .u32 (List.replicate n 0)))).set b38 (.box 166 (U .u32 (List.replicate (n+m+1) 0)))) ?_ ?_
 ·refine .draw2 [(0,true),(2,true),(3,true),(4,true)] 1 5 [(6,true),(5,false),(7,true)] [(1,false),(6,true),(7,true)] rfl aE ?_;refine AY ?_;refine⟨?_,?_⟩
  ·refine XTwo.s rfl rfl (yP (n) U239 typeInfo166 Z166 V166 (tm rfl) (tm rfl) aA aA aC aA) ?_;rintro _ _ ⟨b34,rfl,hb34,hH⟩;obtain rfl:=hH.symm;refine AX ?_;refine .s rfl rfl (yP (n+m+1) U239 typeInfo166 Z166 V166 (tm rfl) (tm rfl) aA aA aC aA) ?_;rintro _ _ ⟨b38,rfl,hb38,hH⟩;obtain rfl:=hH.symm;refine AY ?_;refine .mk ⟨b34,b38,Heap.fresh_ne hb38,hb34,Heap.fresh_inv hb38,rfl,rfl⟩ sX (hRa _)
  refine XTwo.s rfl rfl (yP (n+m+1) U239 typeInfo166 Z166 V166 (tm rfl) (tm rfl) aA aA aC aA) ?_;rintro _ _ ⟨b38,rfl,hb38,hH⟩;obtain rfl:=hH.symm;refine .s rfl rfl (yP (n) U239 typeInfo166 Z166 V166 (tm rfl) (tm rfl) aA aA aC aA) ?_;rintro _ _ ⟨b34,rfl,hb34,hH⟩;obtain rfl:=hH.symm;refine AY ?_;refine .mk ⟨b34,b38,(Heap.fresh_ne hb34).symm,Heap.fresh_inv hb34,hb38,rfl,Heap.set_comm (Heap.fresh_ne hb34) _ _⟩ sX (hRa _)
 rintro _ _ ⟨b34,b38,hne,hb34,hb38,rfl,rfl⟩;refine AY ?_;refine .s rfl (zB call315 (evs3 rfl rfl rfl) (amD (zE y) .shared (zF _) aA b34 0 n n s (List.replicate n 0) (Limbs.rep aA) aF aA aA _ ((oN _ _ hne).trans (oS _ _ _)))) ?_;rintro _ _ ⟨vs,hvl,hvL,hvv,hH⟩;obtain rfl:=hH.symm;rw[auK (by simpa using hvl),Heap.set_swap hne];iterate 3 refine AX ?_
 refine .frzU (t:=9) rfl ((oN _ _ hne).trans hb34) aA (aV _) (by simp only[zJ];omega) ?_;rw[bA (l:=vs) aA];refine AY ?_;refine .s rfl (zB call315 (evs3 rfl rfl rfl) (amD (zE x) .shared (zF _) aA b38 0 (n+m+1) (n+m+1) s (List.replicate (n+m+1) 0) (Limbs.rep aA) aF aA aA _ (oS _ _ _))) ?_;rintro _ _ ⟨us,hul,huL,huv,hH⟩;obtain rfl:=hH.symm;rw[auK (by simpa using hul),sS];refine AY ?_;refine .s rfl (yP (m+1) U239 typeInfo166 Z166 V166 (tm rfl) (tm rfl) aA aA aC aA) ?_;rintro _ _ ⟨b49,rfl,hb49,hH⟩;obtain rfl:=hH.symm;iterate 5 refine AX ?_
 have hne2:b38≠b49:=Heap.fresh_ne hb49;have hb49n:H.objs b49=none:=Heap.fresh_inv hb49;obtain⟨hV,hNV,hO0⟩:=brP (m:=m) hla hy0 hs1 rfl aA hs2 hs3 hvv huv;clear hs2 hs3 hvv huv;have hvv1:=Limbs.getD hvL (n-1);have hvv2:=Limbs.getD hvL (n-2);refine AY ?_;refine .loopW (cgO s n m b38 b49 vs (x*2^s) H) (m+1) ⟨0,us,List.replicate (m+1) 0,Nat.zero_le _,hul,huL,by simp,Limbs.rep aA,hO0,rfl,rfl,rfl⟩ sX (hRa _) ?_;rintro _ _ _ ⟨i,zs,qs,hi,hzl,hzL,hql,hqL,hO,rfl,rfl,hk⟩;refine AY ?_;refine .cx rfl (λhc53=>?_) (λhc53=>?_)
 ·have hji:m+1-i=m-i+1:=by omega
  rw[hji]at hO;have hjn:m-i+n+1-(m-i)=n+1:=by omega
  obtain⟨hD1,hD2,hVpos,hD4,hD5,hD6,hD7⟩:=bkH (j:=m-i) hy hzL aA hvl hvL hNV hO;have hu0:=Limbs.getD hzL (m-i+n);have hu1:=Limbs.getD hzL (m-i+(n-1));have hu2:=Limbs.getD hzL (m-i+(n-2));have hu0s:=apC hu0;have hu1s:=big32 hu1;have hu2s:=big32 hu2;have htop:=chK hu0 hu1;have hD0:=bM (by decide:0<2147483648) hD1;have hqm:(val ((zs.drop (m-i)).take (n+1))/val vs)%2^IntKind.u32.bits=(val ((zs.drop (m-i)).take (n+1))/val vs):=bE hD4;iterate 10 refine AX ?_
  refine .seqToL [(13,.int .i64 ((m-i:Nat):Int))] [6,7,8,9,10,11,51,52] ?_ ?_
  ·refine AY ?_;exact⟨rfl,(zM rfl (by congr 1;omega) sX),rfl⟩
  refine .sub [(13,_),(6,_),(7,_),(8,_),(9,_),(10,_),(11,_),(51,_),(52,_)] sX ?_;refine .seqToL [(14,.int .u64 (((zs.getD (m-i+n) 0*4294967296+zs.getD (m-i+(n-1)) 0):Nat):Int))] [13,6,7,8,9,10,11,51,52] ?_ ?_
  ·refine .draw2 [(0,true),(1,true),(2,true),(3,true),(4,true),(8,true),(9,true),(10,true),(11,true),(12,true),(13,true)] 5 14 [(6,true),(7,true),(14,false),(15,true),(16,true),(17,true)] [(15,true),(5,false),(6,true),(7,true),(16,true),(17,true)] rfl aE ?_;refine AY ?_;refine .p rfl rfl (yH (m-i+n) U239 Z166 (tm rfl) (tm rfl) aA aA) ?_;refine AY ?_;refine .p rfl rfl (yH (m-i+(n-1)) U239 Z166 (tm rfl) (tm rfl) aA aA) ?_;refine AX ?_;refine⟨?_,?_⟩
   ·refine XTwo.s rfl rfl (yZ G166 (tm rfl) ((oN _ _ aB).trans (oS _ _ _)) aA) ?_;rintro _ _ ⟨rfl,hH⟩;obtain rfl:=hH.symm;refine AX ?_;refine .p rfl rfl (qB (tm rfl) (zR 32) aA (by exact hu0s)) (.s rfl rfl (yZ G166 (tm rfl) ((oN _ _ aB).trans (oS _ _ _)) aA) ?_);rintro _ _ ⟨rfl,hH⟩;obtain rfl:=hH.symm;refine .p rfl rfl (aaD U166 U22 (tm rfl) (wrapN64 aB)) (.p rfl rfl (abU (tm rfl) (tm rfl) (hu0s) (hu1s)) ?_);refine AY ?_;exact⟨rfl,(zM rfl (by rw[akM (k:=32) (dE hu1 aC)]) sX),rfl⟩
   refine XTwo.s rfl rfl (yZ G166 (tm rfl) ((oN _ _ aB).trans (oS _ _ _)) aA) ?_;rintro _ _ ⟨rfl,hH⟩;obtain rfl:=hH.symm;refine .p rfl rfl (aaD U166 U22 (tm rfl) (wrapN64 aB)) (.s rfl rfl (yZ G166 (tm rfl) ((oN _ _ aB).trans (oS _ _ _)) aA) ?_);rintro _ _ ⟨rfl,hH⟩;obtain rfl:=hH.symm;refine AX ?_;refine .p rfl rfl (qB (tm rfl) (zR 32) aA (by exact hu0s)) (.p rfl rfl (abU (tm rfl) (tm rfl) (hu0s) (hu1s)) ?_);refine AY ?_;exact⟨rfl,(zM rfl (by rw[akM (k:=32) (dE hu1 aC)]) sX),rfl⟩
  refine .sub [(14,_),(13,_),(6,_),(7,_),(8,_),(9,_),(10,_),(11,_),(51,_),(52,_)] sX ?_;refine AX ?_;refine .draw [(0,true),(1,true),(2,true),(3,true),(4,true),(5,true),(6,true),(7,true),(8,true),(9,true),(10,true),(11,true),(12,true),(13,true),(14,true),(15,true),(16,true),(17,true)] rfl aE ?_;refine AY ?_;refine .p rfl rfl (zW (n-1) U239 Z166 (tm rfl) (tm rfl) aA aA) ?_;iterate 2 refine AX ?_
  refine .p rfl rfl (alB (tm rfl) (tm rfl) (htop) (hD0)) ?_;refine AY ?_;refine .p rfl rfl (zW (n-1) U239 Z166 (tm rfl) (tm rfl) aA aA) ?_;refine AY ?_;refine .p rfl rfl (aiJ (tm rfl) (tm rfl) (hD0)) ?_;iterate 4 refine AX ?_
  refine .meet (bjS s n m b38 b49 i vs zs qs H) ?_ ?_
  ·refine AX ?_;refine .loopW (bxM s n m b38 b49 i (zs.getD (m-i+n) 0*4294967296+zs.getD (m-i+(n-1)) 0) vs zs qs H) ((zs.getD (m-i+n) 0*4294967296+zs.getD (m-i+(n-1)) 0)/vs.getD (n-1) 0) ⟨_,_,Nat.div_add_mod' _ _,cL (bU _ aA) hvv1,hD5,rfl,rfl,rfl⟩ sX (hRa _) ?_;rintro _ _ _ ⟨d,r,hdr,hr,hq,rfl,rfl,hk2⟩;have hd64:=cnF hdr htop hD0;refine AX ?_;refine .seqTo 115 (.bool (decide (4294967296≤d∨r*4294967296+zs.getD (m-i+(n-2)) 0<d*vs.getD (n-2) 0))) [15,16,13,6,7,8,9,10,11,51,52] ?_ ?_
   ·refine bkO (decide (((0:Nat):Int)<((d/2^32:Nat):Int))) (λhg94=>?_) (λhg94=>?_)
    ·have hdB:4294967296≤d:=by simp at hg94;omega
     refine .draw [(0,true),(1,true),(2,true),(3,true),(4,true),(5,true),(6,true),(7,true),(8,true),(9,true),(10,true),(11,true),(12,true),(13,true),(14,true),(15,true),(16,true),(17,true),(18,true),(19,true),(20,true),(21,true),(22,true),(23,true),(24,true)] rfl aE ?_;refine AX ?_;refine .p rfl rfl (aaC (tm rfl) (zR 32) (by exact hd64)) ?_;refine AM ?_;refine AY ?_;exact⟨rfl,zL rfl (by(rw[eq_comm,aO];omega)) sX,rfl⟩
    have hdB:d<4294967296:=by simp at hg94;omega
    have hdv:=bbB hdB hvv2;have hdvs:d*vs.getD (n-2) 0<18446744073709551616:=aU hdv aC;have hrs:=apC hr;refine .draw [(0,true),(1,true),(2,true),(3,true),(4,true),(5,true),(6,true),(7,true),(8,true),(9,true),(10,true),(11,true),(12,true),(13,true),(14,true),(15,true),(16,true),(17,true),(18,true),(19,true),(20,false),(21,true),(22,true),(23,true),(24,true)] rfl aE ?_;refine AX ?_;refine .p rfl rfl (aaC (tm rfl) (zR 32) (by exact hd64)) ?_;refine AM ?_;refine AY ?_;refine .gp rfl rfl rfl rfl aB (zW (n-2) U239 Z166 (tm rfl) (tm rfl) aA aA) ?_;iterate 2 refine AX ?_
    refine .gp rfl rfl rfl rfl aB (abF (tm rfl) (tm rfl) (by exact hdvs)) ?_;refine AX ?_;refine .gp rfl rfl rfl rfl aB (qB (tm rfl) (zR 32) aA (by exact hrs)) ?_;refine AY ?_;refine .gp rfl rfl rfl rfl aB (yH (m-i+(n-2)) U239 Z166 (tm rfl) (tm rfl) aA aA) (.gs rfl rfl rfl rfl aB (yZ G166 (tm rfl) ((oN _ _ aB).trans (oS _ _ _)) aA) ?_);rintro _ _ ⟨rfl,hH⟩;obtain rfl:=hH.symm;refine .gp rfl rfl rfl rfl aB (aaD U166 U22 (tm rfl) (wrapN64 aB)) (.gp rfl rfl rfl rfl aB (abU (tm rfl) (tm rfl) (hrs) (hu2s)) ?_);refine AY ?_;exact⟨rfl,zL rfl (by(rw[akM (k:=32) (dE hu2 aC),show(2:Nat)^32=4294967296 by decide,aT];omega)) sX,rfl⟩
   refine .sub [(115,_),(15,_),(16,_),(13,_),(6,_),(7,_),(8,_),(9,_),(10,_),(11,_),(51,_),(52,_)] sX ?_;refine .cx rfl (λhc115=>?_) (λhc115=>?_)
   ·have hqd:(val ((zs.drop (m-i)).take (n+1))/val vs)<d:=by
     rcases hc115 with h|h
     ·omega
     exact hD6 d r hdr h
    have hd1:1≤d:=aU (Nat.zero_le _) hqd;have hrv:=ciE hr hvv1;have hdn:=ckO hd1 hdr;refine AY ?_;refine .p rfl (abE (tm rfl) (zR 1) (hd1) (hd64)) ?_;refine AY ?_;refine .p rfl (zW (n-1) U239 Z166 (tm rfl) (tm rfl) aA aA) ?_;iterate 2 refine AX ?_
    refine .p rfl (yV (tm rfl) (tm rfl) (by exact hrv)) ?_;iterate 6 refine AX ?_
    refine .p rfl (aaC (tm rfl) (zR 32) (by exact hrv)) ?_;refine AM ?_;refine AY ?_;refine .cx rfl (λhc128=>?_) (λhc128=>?_)
    ·have hbk:=ceO hdr hD2 hr aA aA aA;have hbv:(d-1)*vs.getD (n-2) 0≤18446744065119617025:=bbB hbk hvv2;refine AY ?_;refine .mk ⟨d-1,hbk,by omega,hD7 _ _ hbk hdn aA,rfl,rfl⟩ sX (hRa _)
    refine AY ?_;refine Round.mk ⟨d-1,r+vs.getD (n-1) 0,hdn,by omega,by omega,rfl,rfl,rfl⟩ sX (hRa _) aA
   refine AY ?_;refine .mk ⟨d,by omega,hq,hD7 _ _ aA hdr aA,rfl,rfl⟩ sX (hRa _)
  rintro _ _ ⟨d,hdB,hd1,hd2,rfl,rfl⟩;refine .meet (bjR s n m b38 b49 i vs zs qs H) ?_ ?_
  ·refine AY ?_;refine .p rfl (anN (m-i) (m-i+n+1) U239 Z166 (tm rfl) (tm rfl) (tm rfl) aA aA aA aA aA) ?_;refine AY ?_;refine .s rfl (zB call341 (evs3 rfl rfl rfl) (bhQ vs .shared hvL aA b38 (0+(m-i)) _ _ d hdB aA zs hzL aA aA _ ((oN _ _ hne2).trans (oS _ _ _)))) ?_;rintro _ _ ⟨b2,ws,hb2,hwl,hwL,hval,rfl,hH⟩;obtain rfl:=hH.symm;rw[sU hne2];rw[bZ,hjn]at hval;rw[hjn]at hwl;rw[bZ];obtain⟨hn0,hn1⟩:=blA hzL aA hVpos hwl hwL hd1 hd2 hval hb2;clear hval;refine AY ?_;refine .cx rfl (λhc138=>?_) (λhc138=>?_)
   ·obtain⟨hdd,hww⟩:=hn1 aA;have hd1:1≤d:=by rw[hdd];exact Nat.le_add_left _ _
    refine AY ?_;refine .p rfl (abE (tm rfl) (zR 1) (hd1) (big32 hdB)) ?_;refine AY ?_;refine .p rfl (anN (m-i) (m-i+n+1) U239 Z166 (tm rfl) (tm rfl) (tm rfl) aA aA aA aA aA) ?_;refine AX ?_;refine .s rfl (zB call342 (evs2 rfl rfl) (bjZ vs .shared hvL aA b38 (0+(m-i)) _ _ aA (mid zs (m-i) ws) (afC hzL hwL) (by rw[agQ hwl aA];omega) aA _ ((oN _ _ hne2).trans (oS _ _ _)))) ?_;rintro _ _ ⟨ws2,hw2l,hw2L,hw2v,hH⟩;obtain rfl:=hH.symm;rw[sU hne2];rw[bZ,hjn,bfE hwl aA]at hw2v;rw[hjn]at hw2l;rw[bZ,cjF aA aA];refine AY ?_;refine .mk ⟨ws2,hw2l,hw2L,hw2v.trans hww,rfl,rfl⟩ (zM rfl (by rw[hdd,gA]) sX) (hRa _)
   obtain⟨hdd,hww⟩:=hn0 aA;refine AY ?_;refine .mk ⟨ws,hwl,hwL,hww,rfl,rfl⟩ (zM rfl (by rw[hdd]) sX) (hRa _)
  rintro _ _ ⟨ws,hwl,hwL,hwv,rfl,rfl⟩;refine AY ?_;refine .p rfl (yH (m-i) U239 Z166 (tm rfl) (tm rfl) aA aA) (.e0 (yU Z166 (tm rfl) (tm rfl) (oS _ _ _) aA) ?_);try first|rw[sS]|rw[sU aB]
  refine AY ?_;have hL:=brN hzL aA hNV hVpos hO hwl hwv aA;rw[hqm];refine Round.mk ⟨i+1,_,_,by omega,(agQ hwl aA).trans hzl,afC hzL hwL,by simpa using hql,Limbs.set hqL hD4,by rw[show m+1-(i+1)=m-i by omega];exact hL,rfl,rfl,rfl⟩ sX (hRa _) aA
 iterate 6 refine AX ?_
 have hi2:i=m+1:=by omega
 subst hi2;rw[Nat.sub_self]at hO;obtain⟨hlt,hQ,hR⟩:=bxK hV hO;refine .frzU (t:=11) rfl ((oN _ _ hne2.symm).trans hb49n) aA (aV _) (by simp only[zJ];omega) ?_;rw[bA (l:=qs) aA];refine .frzU (t:=10) rfl hb38 aA (aV _) (by simp only[zJ];omega) ?_;rw[bA (l:=zs) aA];refine AY ?_;refine .s rfl (yP (n) U239 typeInfo166 Z166 V166 (tm rfl) (tm rfl) aA aA aC aA) ?_;rintro _ _ ⟨b157,rfl,hb157,hH⟩;obtain rfl:=hH.symm;refine AY ?_;refine .loopW (bxL n s b157 zs [(11,.slice 1 (U .u32 qs) .shared)] H) (n) ⟨0,List.replicate n 0,Nat.zero_le _,by simp,Limbs.rep aA,rfl,rfl,rfl,rfl⟩ sX (hRa _) ?_;rintro _ _ _ ⟨i,rs,hi,hrl,hrL,hrs,rfl,rfl,hk⟩;refine AY ?_;refine .cx rfl (λhc160=>?_) (λhc160=>?_)
 ·have hz0:=Limbs.getD hzL i;have hz1:=Limbs.getD hzL (i+1);have hz1s:=apC hz1;have hz0s:=big32 hz0;have hor:=cmM hz1 hz0;have hsg:=blY s (xs:=zs) (i:=i) aA;refine AY ?_;refine .draw [(0,true),(1,true),(2,true),(3,true),(4,true),(5,true),(6,true),(7,true),(8,true),(9,true),(10,true),(11,true),(12,true),(13,true),(14,true),(15,true),(16,true),(17,true),(18,true),(19,false)] rfl aE ?_;refine AY ?_;refine .p rfl rfl (zW (i+1) U239 Z166 (tm rfl) (tm rfl) aA aA) ?_;iterate 2 refine AX ?_
  refine .p rfl rfl (qB (tm rfl) (zR 32) aA (by exact hz1s)) ?_;refine AY ?_;refine .p rfl rfl (zW (i) U239 Z166 (tm rfl) (tm rfl) aA aA) ?_;refine AX ?_;refine .p rfl rfl (aaD U166 U22 (tm rfl) (wrapN64 aB)) (.p rfl rfl (abU (tm rfl) (tm rfl) (hz1s) (hz0s)) ?_);refine AX ?_;refine .p rfl rfl (aaC (tm rfl) (tm rfl) (by exact hor)) ?_;refine AX ?_;refine .p rfl rfl (yH (i) U239 Z166 (tm rfl) (tm rfl) aA aA) (.s0 rfl (yU Z166 (tm rfl) (tm rfl) (oS _ _ _) aA) ?_);rintro _ _ ⟨rfl,hH⟩;obtain rfl:=hH.symm;try first|rw[sS]|rw[sU aB]
  refine AY ?_;refine Round.mk ⟨i+1,_,by omega,by simpa using hrl,Limbs.set hrL (bU _ aC),buH aA (by rw[arQ];omega) hrs (by rw[hsg,akM (k:=32) (dE hz0 aC),dS]),rfl,rfl,rfl⟩ sX (hRa _) aA
 iterate 6 refine AX ?_
 have hi2:i=n:=by omega
 subst hi2;refine .frzU (t:=17) rfl hb157 aA (aV _) (by simp only[zJ];omega) ?_;rw[bA (l:=rs) aA];rw[bA (l:=rs) aA]at hrs;have hRv:val rs=x%y:=by
  rw[hrs,cbF hzL hs1 aA hNV.2 hlt,hR,fO _ (bO aC)]
 refine AY ?_;refine .cl rfl C311 (evs1 rfl) (aaJ _ _ aB aA _) ?_;refine AX ?_;refine .cl rfl C311 (evs1 rfl) (aaJ _ _ aB aA _) ?_;refine AY ?_;refine⟨?_,rfl⟩;rw[hQ,hRv];rfl
end
section
open Go Go.RowKit
set_option maxRecDepth 100000
theorem arH(a b:Nat)(hx:a<BIG)(hb0:0<b)(hb:b<BIG):Fn 273 [qL a,qL b] (.tuple [qL (a/b),qL (a%b),.int .i64 0]):=by
 intro H;have ha256:=yI hx;have hb256:=yI hb;have hrb:=ajF b;have hva:=zG a;have hvb:=zG b;have hbl:0<(zE b).length:=by rw[qR hb0];simp
 refine .of_body func273 rfl ntmps273 results273 rfl ?_;iterate 2 refine AX ?_
 iterate 2 refine AM ?_
 refine AY ?_;refine .e rfl (aiX U327 Z239 V239 rfl (tm rfl) (.inl rfl) ⟨rfl,rfl⟩ (tm rfl) (.inl rfl) ⟨rfl,rfl⟩) (.cl rfl C310 (evs1 rfl) (amM _ _ (zF _) aA _ _ _ (zF _) aA _) ?_);refine AY ?_;refine .cx rfl (λhc11=>?_) (λhc11=>?_)
 ·omega
 refine AY ?_;refine .cl rfl C314 (evs1 rfl) (adO _ _ (zF _) aA _) ?_;refine AY ?_;refine .cx rfl (λhc16=>?_) (λhc16=>?_)
 ·omega
 refine AY ?_;refine .cl rfl call316 (evs2 rfl rfl) (cmpB _ _ hx aA _) ?_;refine AY ?_;refine .cx rfl (λhc20=>?_) (λhc20=>?_)
 ·have hlt:=cnH hc20;refine AY ?_;refine .cl rfl C278 (evs1 rfl) (aqA _ _ (zF _) aA _) ?_;refine AM ?_;refine AY ?_;refine⟨?_,rfl⟩;rw[bW hlt,bE hlt,zG];rfl
 have hge:=cnI (a:=a) (b:=b) aA;refine AY ?_;refine .cl rfl C311 (evs1 rfl) (cutB _ aA _) ?_;refine AY ?_;refine .cx rfl (λhc31=>?_) (λhc31=>?_)
 ·obtain⟨hb1,_,hb2⟩:=cjQ (b:=b) aA;have hg:(zE b).getD 0 0=b:=by rw[hb1];rfl
  have hml:=bU a hb0;refine AY ?_;refine .s rfl (zB C278 (evs1 rfl) (boX _ _ (zF _) aA _)) ?_;rintro _ _ ⟨b33,hb33,rfl,hH⟩;obtain rfl:=hH.symm;rw[zG];refine AY ?_;refine .p rfl (zW (0) U239 Z166 (tm rfl) zH aA aA) ?_;refine AX ?_;refine .s rfl (zB call317 (evs2 rfl rfl) (asY b33 0 (zE a).length (zE a).length ((zE b).getD 0 0) aA aA (zE a) (zF _) aA aA _ (oS _ _ _))) ?_;rintro _ _ ⟨rfl,ws,hwl,hwL,hwv,hH⟩;obtain rfl:=hH.symm;rw[auK hwl,sS];rw[cU,bA aA,hg,zG]at *;iterate 4 refine AX ?_
  refine .frzU (t:=7) rfl hb33 aA (aV _) (by simp only[zJ];omega) ?_;rw[bA (l:=ws) aA];refine AY ?_;refine .cl rfl C311 (evs1 rfl) (aaJ ws .shared hwL aA _) ?_;refine AY ?_;refine .cl rfl C230 (evs1 rfl) (asI _ aA _) ?_;refine AY ?_;refine⟨?_,rfl⟩;rw[hwv];rfl
 refine AY ?_;refine .cl rfl C311 (evs1 rfl) (cutB _ aA _) ?_;refine AX ?_;refine .cl rfl call318 (evs2 rfl rfl) (brO _ _ aA aA aA _) ?_;refine AY ?_;exact⟨rfl,rfl⟩
end
end Go.Proofs.YtmmgbnolccpjoaaGreatDoor
