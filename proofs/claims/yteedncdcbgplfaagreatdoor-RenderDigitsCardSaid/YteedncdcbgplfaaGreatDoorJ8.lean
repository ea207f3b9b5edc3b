import Derived.Test.YteedncdcbgplfaaGreatDoorJ6
set_option maxHeartbeats 1000000
namespace Go.Proofs.YteedncdcbgplfaaGreatDoor
open Go.Proofs.Tryz
open Go Go.RowKit
variable{o:Loc}{i k:Nat}{a:List Nat}
section
open Go Go.RowKit
set_option maxRecDepth 100000
def bxO(i:Nat):AV:=.int .i64 (i:Int)
def afG(a:List Nat)(tl:Tail):AV:=.slice 1 (a.map bxO) tl
theorem beL(a:List Nat):∀x,x∈a.map bxO→x.row 1:=λx hx=>by
 obtain⟨i,_,rfl⟩:=fW.1 hx;exact⟨rfl,rfl⟩
theorem boA(x:ItN)(ks:List Int)(tl:Tail)(hl:ks.length≤1000):Fn 173 [x.av,.iptr [.slice 1 (ks.map (.int .i64)) tl]] (.bool (decide (x.kind∈ks))):=by
 intro H;refine .of_body func173 rfl ntmps173 results173 rfl ?_;iterate 9 refine AX ?_
 refine .p rfl (zA U57 rfl Z3 (tm rfl)) ?_;refine AX ?_;refine .cl rfl call174 (evs2 rfl rfl) (auX _ _ _ aB _) ?_;iterate 5 refine AX ?_
 exact⟨rfl,rfl⟩
theorem agJ(l:List ItN)(gr:Bool)(sc:Int)(o:Loc)(b n:Nat)(hl:l.length≤100000)(ks:List Int)(tk:Tail)(hk:ks.length≤1000):Fn 94 [.iptr (shC l gr sc o b n),.slice 1 (ks.map (.int .i64)) tk] (.int .i64 (zZ l ks:Int)):=by
 intro H;have hcl:zZ l ks≤l.length:=List.findIdx_le_length;refine .of_body func94 rfl ntmps94 results94 rfl ?_;iterate 10 refine AX ?_
 refine .p rfl (zA U89 rfl Z52 (tm rfl)) (.p rfl (zA U52 rfl Z50 (tm rfl)) ?_);iterate 2 refine AX ?_
 refine .cl rfl call172 (evs2 rfl rfl) (awD l .shared hl _ _ (λx=>decide (x.kind∈ks)) _ call173 (λx=>boA x ks tk hk _)) ?_;rw[show l.findIdx (λx=>decide (x.kind∈ks))=zZ l ks from rfl];generalize hq:(if zZ l ks=l.length then(-1:Int)else((zZ l ks:Nat):Int))=q;have hq1:(q<0→zZ l ks=l.length)∧(¬q<0→q=(zZ l ks:Nat)):=by rw[←hq];split<;>omega
 iterate 10 refine AX ?_
 refine .cx rfl (λhc14=>?_) (λhc14=>?_)
 ·iterate 4 refine AX ?_
  refine .p rfl (zA U89 rfl Z52 (tm rfl)) (.p rfl (zA U52 rfl Z50 (tm rfl)) ?_);iterate 8 refine AX ?_
  rw[hq1.1 hc14];exact⟨rfl,rfl⟩
 iterate 10 refine AX ?_
 rw[←hq1.2 aA];exact⟨rfl,rfl⟩
def beT(l:List ItN)(gr:Bool)(sc:Int)(o:Loc)(b n:Nat)(a e:Nat)(H:Heap):Nat→Env→Heap→Prop:=λk env H1=>∃(i t:Nat),a≤i∧i≤e∧env=[(0,.iptr (shC l gr sc o b n)),(2,.int .i64 (e:Int)),(7,afG (agW l a i) (.own t)),(8,.int .i64 (i:Int))]∧H.le H1∧H1.toks t=true∧H.toks t=false∧k=e-i
theorem adO(l:List ItN)(gr:Bool)(sc:Int)(o:Loc)(b n:Nat)(hl:l.length≤100000)(a e:Nat)(hae:a≤e)(hel:e≤l.length)(H:Heap):ACall prog 95 [.iptr (shC l gr sc o b n),.int .i64 (a:Int),.int .i64 (e:Int)] H (λy H'=>y=afG (agW l a e) .shared∧H'=H):=by
 have hle0:=hRa H;refine ACall.of_body func95 rfl ntmps95 results95 rfl ?_;iterate 18 refine AX ?_
 refine AWP.tag (t:=7) rfl (λu7 hu7=>?_);have hfu7:=Heap.fresh_of hle0 hu7;have hleu7:=Heap.le_in hle0 u7;refine AWP.loopW (beT l gr sc o b n a e H) (e-a) ⟨a,u7,aZ _,hae,rfl,hleu7,Heap.toks_live_same _ _,hfu7,rfl⟩ (zK rfl (zK rfl (zR rfl (abB (by rw[ceU];rfl)) (zK rfl yF)))) (hRa _) ?_;rintro _ _ H1 ⟨i,t,hai,hie,rfl,hle1,hlive,hfr,rfl⟩;iterate 8 refine AX ?_
 refine AWP.cx rfl (λhc12=>?_) (λhc12=>?_)
 ·iterate 8 refine AX ?_
  refine .p rfl (zA U89 rfl Z52 (tm rfl)) (.p rfl (zA U52 rfl Z50 (tm rfl)) ?_);iterate 3 refine AX ?_
  refine .p rfl (zA U57 rfl Z3 (tm rfl)) ?_;iterate 4 refine AX ?_
  refine AWP.cx rfl (λhc24=>?_) (λhc24=>?_)
  ·iterate 3 refine AX ?_
   refine .e rfl (yJ U30 Z3 V3 rfl (tm rfl) (.inl rfl) ⟨rfl,rfl⟩) ?_;refine .s rfl (qT U30 U30 Z3 typeInfo3 V3 rfl aC (tm rfl) (tm rfl) (by exact .own _ hlive) (by show(_+_)*8≤_;simp only[cE,aW,bG];have:=adZ l a i;omega) (by repeat' (first|exact zX _|exact qY|exact adD ⟨rfl,rfl⟩ qY|exact qO (zX _)|exact qN (zX _)|refine aaC ?_ ?_ |exact beL _)) (by repeat' (first|exact zX _|exact qY|exact adD ⟨rfl,rfl⟩ qY|exact qO (zX _)|exact qN (zX _)|refine aaC ?_ ?_))) ?_;rintro _ _ ⟨t28,ht28,rfl,hH⟩;obtain rfl:=hH.symm;have hf28:=Heap.fresh_of hle1 ht28;have hle28:=Heap.le_in (Heap.le_out (t:=t) hle1 aB) t28;iterate 10 refine AX ?_
   refine Round.mk (J:=beT l gr sc o b n a e H) ⟨i+1,t28,by omega,by omega,rfl,hle28,Heap.toks_live_same _ _,hf28,rfl⟩ (zK rfl (zK rfl (zR rfl (abB (by rw[bkO l hai,aN ((aaF (i:=i) aA).trans hc24),eS];rfl)) (zK rfl yF)))) (hRa _) aA
  iterate 9 refine AX ?_
  refine Round.mk (J:=beT l gr sc o b n a e H) ⟨i+1,t,by omega,by omega,rfl,hle1,hlive,hfr,rfl⟩ (zK rfl (zK rfl (zR rfl (abB (by rw[bkO l hai,aM (λq=>hc24 ((aaF (i:=i) aA).symm.trans q)),bU])) (zK rfl yF)))) (hRa _) aA
 iterate 6 refine AX ?_
 have hie:i=e:=by omega
 subst hie;refine AWP.weakv (afG (agW l a i) .shared) (t:=7) rfl (.slice _ _ _) ?_;iterate 6 refine AX ?_
 refine Ret.go (.cons (.tmp _ _ rfl) .nil) _ (hle1) ?_;exact⟨rfl,rfl⟩
open Go Go.RowKit
def adC(ds:List UInt8)(p:Int)(places:Nat):List UInt8×List UInt8:=
 if ds=[]then([],List.replicate places 48)
 else((List.replicate (-p).toNat 48++ds++List.replicate (p.toNat+places-(List.replicate (-p).toNat 48++ds:List UInt8).length) 48).take p.toNat,
   (List.replicate (-p).toNat 48++ds++List.replicate (p.toNat+places-(List.replicate (-p).toNat 48++ds:List UInt8).length) 48).drop p.toNat)
def atR(ds:List UInt8)(i:Int):UInt8:=if i<0∨(ds.length:Int)≤i then 48 else ds.getD i.toNat 0
def clY(ds:List UInt8)(p:Int)(places:Nat):List UInt8×List UInt8:=
 if ds=[]then([],(List.range places).map λi=>atR ds (p+(i:Nat)))else((List.range p.toNat).map λi=>atR ds (i:Nat),(List.range places).map λi=>atR ds (p+(i:Nat)))
theorem cdR{ds:List UInt8}{p:Int}{places:Nat}(h:ds=[]∨(ds.length:Int)≤p+places):clY ds p places=adC ds p places:=by
 unfold clY adC;by_cases h0:ds=[]
 ·rw[aN h0,aN h0];subst h0;refine congrArg _ (gW aF λi h1 h2=>?_);simp only[List.getElem_map,List.getElem_range,List.getElem_replicate,atR];rw[aN];simp;omega
 rw[aM h0,aM h0];have hl:(ds.length:Int)≤p+places:=h.resolve_left h0;have hp:=bV.2 h0;have tl:(List.replicate (-p).toNat 48++ds++List.replicate (p.toNat+places-(List.replicate (-p).toNat 48++ds:List UInt8).length) 48).length=p.toNat+places:=by
  simp only[aO,bE];omega
 have tg:∀i,i<p.toNat+places→(List.replicate (-p).toNat 48++ds++List.replicate (p.toNat+places-(List.replicate (-p).toNat 48++ds:List UInt8).length) 48)[i]?=some (atR ds ((i:Int)-(-p).toNat)):=by
  intro i hi;unfold atR;by_cases h1:i<(-p).toNat
  ·rw[aN (.inl aA),bK,cV (by simpa using h1)];simp[h1]
  by_cases h2:i<(-p).toNat+ds.length
  ·rw[aJ,cV aG,cY aG,bE,aP,show((i:Int)-(-p).toNat).toNat=i-(-p).toNat by omega,aX aA];rfl
  rw[aN (.inr aA),cY aG,gF,aN (by simp at tl ⊢;omega)]
 generalize(List.replicate (-p).toNat 48++ds++List.replicate (p.toNat+places-(List.replicate (-p).toNat 48++ds:List UInt8).length) 48)=t at *;refine Prod.ext (List.ext_getElem? λi=>?_) (List.ext_getElem? λi=>?_)
 ·show((List.range p.toNat).map _)[i]?=(t.take p.toNat)[i]?;by_cases hi:i<p.toNat
  ·rw[List.getElem?_take_of_lt hi,tg i aA,cT,List.getElem?_range hi];show some (atR ds i)=_;congr 2;omega
  rw[gM aG,gM aG]
 show((List.range places).map _)[i]?=(t.drop p.toNat)[i]?;rw[eK];by_cases hi:i<places
 ·rw[tg _ aA,cT,List.getElem?_range hi];show some (atR ds (p+i))=_;congr 2;omega
 rw[gM aG,gM aA]
theorem blT{ds:List UInt8}{p:Int}{places:Nat}(h:ds=[]∨(ds.length:Int)≤p+places):(adC ds p places).2.length=places:=by
 rw[←cdR h];unfold clY;split<;>simp
def apG(a:Int)(n:Nat):Int:=a/(n:Int)
theorem boJ(a:Int)(n:Nat)(hn:0<n):apG a n=(if a.tmod n<0 then a.tdiv n-1 else a.tdiv n):=by
 unfold apG;have hnz:(n:Int)≠0:=by omega
 have h:=Int.mul_tdiv_add_tmod a n;have h2:=Int.mul_ediv_add_emod a n;have h3:=Int.emod_nonneg a hnz;have h4:=Int.emod_lt_of_pos a (show(0:Int)<n by omega);rcases(show a<0∨0≤a by omega)with ha|ha
 ·have e:(-a).tdiv n=(-a)/n:=fY aA;have m1:a.tdiv n= -((-a)/n):=by rw[←e,Int.neg_tdiv];omega
  have g1:=Int.mul_ediv_add_emod (-a) n;have g3:=Int.emod_nonneg (-a) hnz;have g4:=Int.emod_lt_of_pos (-a) (show(0:Int)<n by omega);rw[m1]at h ⊢;generalize(-a)/(n:Int)=u at *;generalize a/(n:Int)=v at *;have k1:(n:Int)* -u= -((n:Int)*u):=Int.mul_neg _ _;split
  ·rename_i hlt
   have:(n:Int)*(v+u)=(n:Int)*v+(n:Int)*u:=Int.mul_add _ _ _;have hx:(n:Int)*(v+u)<0∧ -(2*(n:Int))<(n:Int)*(v+u):=by omega
   have:v+u= -1:=by
    rcases(show(v+u)<0∨0≤(v+u) by omega)with q|q
    ·rcases(show(v+u)<(-1)∨(-1)≤(v+u) by omega)with q2|q2
     ·have:=Int.mul_le_mul_of_nonneg_left (show v+u≤ -2 by omega) (show(0:Int)≤n by omega);omega
     omega
    have:=Int.mul_nonneg (show(0:Int)≤n by omega) q;omega
   omega
  rename_i hlt
  have:(n:Int)*(v+u)=(n:Int)*v+(n:Int)*u:=Int.mul_add _ _ _;have hx:(n:Int)*(v+u)<(n:Int)∧ -(n:Int)<(n:Int)*(v+u):=by omega
  have:v+u=0:=by
   rcases(show(v+u)<0∨0≤(v+u) by omega)with q|q
   ·have:=Int.mul_le_mul_of_nonneg_left (show v+u≤ -1 by omega) (show(0:Int)≤n by omega);omega
   rcases(show 0<(v+u)∨(v+u)≤0 by omega)with q2|q2
   ·have:=Int.mul_le_mul_of_nonneg_left (show 1≤v+u by omega) (show(0:Int)≤n by omega);omega
   omega
  omega
 rw[fY ha]at *;rw[aM];have:=Int.tmod_nonneg (n:Int) ha;omega
end
section
open Go Go.RowKit
set_option maxRecDepth 100000
def szI(sec i:Nat):Int:=if i=0 then 3 else sec
def zI(sec k i:Nat):Int:=(k:Int)-(if i=0 then 0 else 3+sec*((i-1:Nat):Int))
theorem cmV(sec k i:Nat):zI sec k (i+1)=zI sec k i-szI sec i:=by
 unfold zI szI;by_cases h:i=0
 ·subst h;simp
 rw[aJ,aM h,aM h,show((i+1-1:Nat):Int)=((i-1:Nat):Int)+1 by omega,Int.mul_add];omega
theorem cjE(sec k:Nat):zI sec k 0=(k:Int):=by unfold zI;simp
theorem cmB(sec k j:Nat):zI sec k (j+1)=(k:Int)-(3+sec*(j:Int)):=by unfold zI;rw[aJ];rfl
theorem szE(hs2:o.second=2∨o.second=3)(i:Nat):((if o.second=2 then [3,2]else [3]:List Int).map (AV.int .i64))[(asK (i:Int) (((if o.second=2 then [3,2]else [3]:List Int).length:Int)-1)).toNat]?=some (.int .i64 (szI o.second i)):=by
 rcases hs2 with h|h<;>rw[h]
 ·match i with
  |0=>rfl
  |1=>rfl
  |i+2=>
   have:asK ((i+2:Nat):Int) (((([3,2]:List Int)).length:Int)-1)=1:=by unfold asK;split<;>(simp at *;try omega)
   simp only[if_true];rw[this];rfl
 match i with
 |0=>rfl
 |i+1=>
  have:asK ((i+1:Nat):Int) (((([3]:List Int)).length:Int)-1)=0:=by unfold asK;split<;>(simp at *;try omega)
  simp only[show((3:Nat)=2)=False by simp,if_false];rw[this];rfl
theorem cfB(hs2:o.second=2∨o.second=3)(h0:¬k=0)(h1:i=0∨0<zI o.second k (i-1))(h2:zI o.second k i≤0):(zI o.second k i<0→aaS o true k=[])∧(¬zI o.second k i<0→aaS o true k=o.grp):=by
 match i with
 |0=>rw[cjE]at h2;omega
 |1=>
  have h1:0<zI o.second k 0:=h1.resolve_left aA;rw[cjE]at h1;have e:zI o.second k 1=(k:Int)-3:=by rw[show(1:Nat)=0+1 from rfl,cmB];simp
  rw[e]at h2 ⊢;unfold aaS;constructor
  ·intro h;rw[aM (by rintro⟨_,h3,_⟩;omega)]
  intro h;have:k=3:=by omega
  subst this;rw[aN ⟨rfl,by omega,by simp⟩]
 |j+2=>
  have h1:0<zI o.second k (j+1):=h1.resolve_left aA;rw[cmB]at h1;have e:zI o.second k (j+2)=(k:Int)-(3+o.second*((j+1:Nat):Int)):=cmB _ _ _;rw[e]at h2 ⊢;clear e;unfold aaS;rcases hs2 with e|e<;>rw[e]at h1 h2 ⊢ <;>constructor<;>intro h
  ·rw[aM (by rintro⟨_,h3,h4⟩;omega)]
  ·rw[aN ⟨rfl,by omega,by omega⟩]
  ·rw[aM (by rintro⟨_,h3,h4⟩;omega)]
  rw[aN ⟨rfl,by omega,by omega⟩]
theorem bbX{gr:Bool}(h:gr=false∨k=0):aaS o gr k=[]:=by
 unfold aaS;rw[aM];rintro⟨h1,h2,_⟩;rcases h with h|h
 ·rw[h]at h1;cases h1
 omega
theorem bgD(ho:o.ok)(gr:Bool)(k:Nat):(aaS o gr k).length≤10:=by
 unfold aaS;split
 ·exact ho.2.1
 simp
theorem cfT(hs2:o.second=2∨o.second=3)(i:Nat):2≤szI o.second i∧szI o.second i≤3:=by
 unfold szI;split<;>omega
def bsE(l:List ItN)(gr:Bool)(sc:Int)(o:Loc)(b n:Nat)(q:Nat)(H:Heap):Nat→Env→Heap→Prop:=λk env H1=>∃i:Nat,(i=0∨0<zI o.second q (i-1))∧i≤q+1∧zI o.second q i+2*i≤q+3∧ -3≤zI o.second q i∧env=[(0,.iptr (shC l gr sc o b n)),(1,.int .i64 (zI o.second q i)),(5,.int .i64 (i:Int))]∧H=H1∧k=(zI o.second q i).toNat
theorem beP(l:List ItN)(gr:Bool)(sc:Int)(o:Loc)(b n:Nat)(hs2:o.second=2∨o.second=3)(q:Nat)(hq:q≤1000000):Fn 177 [.iptr (shC l gr sc o b n),.int .i64 (q:Int)] (.str (aaS o gr q)):=by
 intro H;refine .of_body func177 rfl ntmps177 results177 rfl ?_;iterate 6 refine AX ?_
 refine .seqTo 15 (.bool (decide (gr=false∨q=0))) [0,1,4] ?_ ?_
 ·iterate 3 refine AX ?_
  refine .p rfl (zA U89 rfl Z52 (tm rfl)) (.p rfl (zA U52 rfl Z4 (tm rfl)) ?_);iterate 3 refine AX ?_
  refine zD (t:=12) rfl (λhg12=>?_) (λhg12=>?_)
  ·have hh12:=hg12;try simp only[aL]at hh12
   iterate 4 refine AX ?_
   exact⟨rfl,zS rfl (by(refine Eq.symm ?_;first|exact aU (.inl hh12)|exact aQ.2 ⟨λh=>by rcases h with h|h;exact absurd h (by rw[hh12];simp);omega,λh=>.inr aA⟩)) sX,rfl⟩
  have hh12:=hg12;try simp only[aL]at hh12
  iterate 4 refine AX ?_
  exact⟨rfl,zS rfl (by(refine Eq.symm ?_;first|exact aU (.inl hh12)|exact aQ.2 ⟨λh=>by rcases h with h|h;exact absurd h (by rw[hh12];simp);omega,λh=>.inr aA⟩)) sX,rfl⟩
 refine .sub [(15,_),(0,_),(1,_),(4,_)] sX ?_;refine .cx rfl (λhc15=>?_) (λhc15=>?_)
 ·iterate 8 refine AX ?_
  refine⟨?_,rfl⟩;rw[bbX hc15];rfl
 iterate 9 refine AX ?_
 refine .loopW (bsE l gr sc o b n q H) (q) ⟨0,.inl rfl,Nat.zero_le _,by rw[cjE];omega,by rw[cjE];omega,rfl,rfl,by rw[cjE];rfl⟩ (zK rfl (zR rfl (by rw[cjE]) (zK rfl yF))) (hRa _) ?_;rintro _ _ _ ⟨i,hi0,hiq,hz4,hz5,rfl,rfl,hk⟩;iterate 7 refine AX ?_
 refine .cx rfl (λhc17=>?_) (λhc17=>?_)
 ·have hzs:=cmV o.second q i;obtain⟨hz1,hz2⟩:=cfT hs2 i;iterate 4 refine AX ?_
  refine .draw [(0,true),(1,true),(2,true),(3,true),(4,true),(5,true),(6,true),(7,true),(8,true),(9,true),(10,true),(11,true),(12,true),(13,true),(14,true),(15,true),(16,true),(17,true),(18,true)] rfl aE ?_;iterate 3 refine AX ?_
  refine .p rfl rfl (zA U89 rfl Z32 (tm rfl)) (.p rfl rfl (zA U32 rfl Z30 (tm rfl)) ?_);iterate 4 refine AX ?_
  refine .p rfl rfl (zA U89 rfl Z32 (tm rfl)) (.p rfl rfl (zA U32 rfl Z30 (tm rfl)) ?_);iterate 2 refine AX ?_
  refine .p rfl rfl (qK (tm rfl) zJ (by split<;>simp)) ?_;refine AX ?_;refine .p rfl rfl (aaY U30 Z3 (tm rfl) (tm rfl) (by unfold asK;split<;>(try split)<;>simp<;>omega) (szE hs2 i)) ?_;iterate 12 refine AX ?_
  refine Round.mk ⟨i+1,.inr (by rw[show i+1-1=i from rfl];omega),by omega,by rw[hzs];omega,by rw[hzs];omega,rfl,rfl,rfl⟩ (zK rfl (zR rfl (by rw[hzs]) (zK rfl yF))) (hRa _) aA
 have hgt:gr=true:=by
  cases hgg:gr with
  |true=>rfl
  |false=>exact absurd (.inl hgg) hc15
 obtain⟨hm1,hm2⟩:=cfB hs2 (k:=q) (i:=i) (λe=>hc15 (.inr e)) hi0 aA;iterate 12 refine AX ?_
 refine .cx rfl (λhc39=>?_) (λhc39=>?_)
 ·iterate 8 refine AX ?_
  refine⟨?_,rfl⟩;rw[hgt,hm1 hc39];rfl
 iterate 6 refine AX ?_
 refine .p rfl (zA U89 rfl Z32 (tm rfl)) (.p rfl (zA U32 rfl Z9 (tm rfl)) ?_);iterate 6 refine AX ?_
 refine⟨?_,rfl⟩;rw[hgt,hm2 aA];rfl
theorem bsD(l:List ItN)(gr:Bool)(sc:Int)(o:Loc)(b n:Nat)(hs2:o.second=2∨o.second=3)(q:Nat)(hq:q≤1000000){z:Int}(hz:z=(q:Int)):Fn 177 [.iptr (shC l gr sc o b n),.int .i64 z] (.str (aaS o gr q)):=by
 intro H;subst hz;exact beP l gr sc o b n hs2 q hq H
def bxN(mk:Nat→List UInt8)(s:List UInt8)(last:Nat):Nat→List UInt8
 |0=>[]
 |i+1=>bxN mk s last i++(s.getD i 0::mk (last+(s.length-1-i)))
theorem byX(mk:Nat→List UInt8)(s:List UInt8)(last:Nat)(a r:List UInt8)(h:s=a++r):bxN mk s last s.length=bxN mk s last a.length++ajQ mk r last:=by
 induction r generalizing a with
 |nil=>rw[h];simp[ajQ]
 |cons x r ih=>
  rw[ih (a++[x]) (by rw[h];simp),aO,gN,bxN,ajQ,bK];rw[show s.getD a.length 0=x by rw[h];simp,show s.length-1-a.length=r.length by rw[h];simp]
theorem cjU(mk:Nat→List UInt8)(s:List UInt8)(last:Nat):bxN mk s last s.length=ajQ mk s last:=by
 rw[byX mk s last [] s rfl];rfl
theorem cgJ{mk:Nat→List UInt8}(hm:∀k,(mk k).length≤10)(s:List UInt8)(last i:Nat):(bxN mk s last i).length≤11*i:=by
 induction i with
 |zero=>simp[bxN]
 |succ i ih=>rw[bxN,aO,aW];have:=hm (last+(s.length-1-i));omega
theorem arX{s:List UInt8}(h:i<s.length):(s.take (i+1)).drop i=[s.getD i 0]:=by
 rw[←cI h,eI aG,cS aG];simp[aX h]
def cdP(l:List ItN)(gr:Bool)(sc:Int)(o:Loc)(b n:Nat)(s:List UInt8)(last:Nat)(H:Heap):Nat→Env→Heap→Prop:=λk env H1=>∃i:Nat,i≤s.length∧env=[(0,.iptr (shC l gr sc o b n)),(1,.str s),(2,.int .i64 (last:Int)),(7,.str (bxN (aaS o gr) s last i)),(10,.int .i64 (s.length:Int)),(11,.int .i64 (i:Int))]∧H=H1∧k=s.length-i
theorem blY(l:List ItN)(gr:Bool)(sc:Int)(o:Loc)(b n:Nat)(ho:o.ok)(hs2:o.second=2∨o.second=3)(s:List UInt8)(hs:s.length≤110000)(last:Nat)(hlast:last≤800000):Fn 178 [.iptr (shC l gr sc o b n),.str s,.int .i64 (last:Int)] (.str (ajQ (aaS o gr) s last)):=by
 intro H;refine .of_body func178 rfl ntmps178 results178 rfl ?_;iterate 19 refine AX ?_
 refine .loopW (cdP l gr sc o b n s last H) (s.length) ⟨0,Nat.zero_le _,rfl,rfl,rfl⟩ sX (hRa _) ?_;rintro _ _ _ ⟨i,hi,rfl,rfl,rfl⟩;iterate 6 refine AX ?_
 refine .cx rfl (λhc12=>?_) (λhc12=>?_)
 ·iterate 10 refine AX ?_
  refine .draw [(0,true),(1,true),(2,true),(3,true),(4,true),(5,true),(6,true),(7,true),(8,true),(9,true),(10,true),(11,true),(12,true),(13,true),(14,true),(15,true),(16,true),(17,true)] rfl aE ?_;iterate 14 refine AX ?_
  refine .f rfl rfl (λ_=>zB call177 (evs2 rfl rfl) (bsD _ _ _ _ _ _ hs2 (last+(s.length-1-i)) aA aA _)) ?_;refine .p rfl rfl (zY (tm rfl) (tm rfl) (by have h1:=bgD ho gr (last+(s.length-1-i));rw[zQ];simp only[bO,aV];omega)) ?_;refine .p rfl rfl (zY (tm rfl) (tm rfl) (by have h1:=bgD ho gr (last+(s.length-1-i));have h2:=cgJ (bgD ho gr) s last i;rw[zQ];simp only[bO,aV,aO];omega)) ?_;iterate 9 refine AX ?_
  refine Round.mk ⟨i+1,by omega,rfl,rfl,rfl⟩ (zK rfl (zK rfl (zK rfl (zR rfl (by rw[bxN,show((i:Int)+1).toNat=i+1 by omega,show(i:Int).toNat=i from rfl,arX (show i<s.length by omega)];rfl) sX)))) (hRa _) aA
 iterate 13 refine AX ?_
 have hil:i=s.length:=by omega
 subst hil;rw[cjU];exact⟨rfl,rfl⟩
end
section
open Go Go.RowKit
set_option maxRecDepth 100000
theorem aoO(neg:Bool)(ds:List UInt8)(e:Int)(hd:Digs ds)(hl:ds.length≤2000)(hp: -110000≤zU ds e∧zU ds e≤110000)(places:Nat)(hpl:places≤100000):Fn 99 [dA neg ds e,.int .i64 (places:Int)] (.tuple [.str (adC ds (zU ds e) places).1,.str (adC ds (zU ds e) places).2]):=by
 intro H;refine .of_body func99 rfl ntmps99 results99 rfl ?_;iterate 8 refine AX ?_
 refine .draw [(0,true),(2,true),(3,true),(1,false),(4,true),(5,true)] rfl aE ?_;refine AX ?_;refine .p rfl rfl (zA U61 rfl Z9 (tm rfl)) ?_;refine AX ?_;refine .s rfl rfl (zB C88 (evs1 rfl) (acT neg ds e hd _)) ?_;rintro _ _ ⟨rfl,hH⟩;obtain rfl:=hH.symm;generalize zU ds e=p at *;iterate 11 refine AX ?_
 refine .cx rfl (λhc13=>?_) (λhc13=>?_)
 ·iterate 3 refine AX ?_
  refine .cl rfl C103 (.cons (zO rfl) (evs1 rfl)) (repeatZ 48 _ places rfl aA _) ?_;iterate 7 refine AX ?_
  refine⟨?_,rfl⟩;unfold adC;rw[aN hc13];rfl
 iterate 9 refine AX ?_
 refine .cx rfl (λhc17=>?_) (λhc17=>?_)
 ·iterate 4 refine AX ?_
  refine .cl rfl C103 (.cons (zO rfl) (evs1 rfl)) (repeatZ 48 _ (-p).toNat aA aA _) ?_;refine AX ?_;refine .p rfl (zY (tm rfl) (tm rfl) (by exact aeG (by simp only[bE];omega))) ?_;iterate 15 refine AX ?_
  refine .p rfl (qK (tm rfl) (tm rfl) (by(simp only[aO,bE]at *;omega))) ?_;refine AX ?_;refine .cl rfl C103 (.cons (zO rfl) (evs1 rfl)) (repeatZ 48 _ (p.toNat+places-(List.replicate (-p).toNat 48++ds:List UInt8).length) (by unfold anA;simp only[aO,bE];split<;>omega) aA _) ?_;refine .p rfl (zY (tm rfl) (tm rfl) (by exact aeG (by simp only[aO,bE];omega))) ?_;iterate 4 refine AX ?_
  refine .draw [(0,true),(1,true),(2,true),(3,true),(4,true),(5,true),(6,true),(7,true)] rfl aE ?_;iterate 12 refine AX ?_
  refine⟨?_,rfl⟩;unfold adC;rw[aM hc13];rw[show p.toNat=0 by omega];rfl
 iterate 12 refine AX ?_
 refine .cl rfl C103 (.cons (zO rfl) (evs1 rfl)) (repeatZ 48 _ (p.toNat+places-(List.replicate (-p).toNat 48++ds:List UInt8).length) (by unfold anA;simp only[aO,bE];split<;>omega) aA _) ?_;refine .p rfl (zY (tm rfl) (tm rfl) (by exact aeG (by simp only[aO,bE];omega))) ?_;iterate 4 refine AX ?_
 refine .draw [(0,true),(1,true),(2,true),(3,true),(4,true),(5,true),(6,true),(7,true)] rfl aE ?_;iterate 2 refine AX ?_
 refine .p rfl rfl (agP U9 (tm rfl) (tm rfl) aA (by(simp only[aO,bE]at *;omega))) ?_;iterate 2 refine AX ?_
 refine .p rfl rfl (agO U9 (tm rfl) (tm rfl) aA (by(simp only[aO,bE]at *;omega))) ?_;iterate 6 refine AX ?_
 refine⟨?_,rfl⟩;unfold adC;rw[aM hc13,show(-p).toNat=0 by omega];rfl
theorem abP{l:List ItN}(h:k<l.length):l[k].text=aaA l k:=by unfold aaA;rw[asJ h]
theorem bbU(h:i<a.length):(a.map bxO)[((i:Nat):Int).toNat]?=some (bxO (a.getD i 0)):=by
 show(a.map bxO)[i]?=_;rw[cT,aX h,aP,aX h];rfl
theorem bgT(h:i<a.length):a.drop i=a.getD i 0::a.drop (i+1):=by
 rw[cL h,aP,aX h];rfl
theorem atA{n:Nat}(ha:∀k,k∈a→k<n)(h:i<a.length):a.getD i 0<n:=by
 rw[aP,aX h];exact ha _ (cF _)
theorem cfL(row:List UInt8):(Lib.trimRightB row 48).length=aeS row:=by unfold Lib.trimRightB aeS;rw[fJ]
theorem bxW(row:List UInt8):aeS row≤row.length:=by unfold aeS;exact bC (eM _).length_le aF
def brV(l:List ItN)(gr:Bool)(sc:Int)(o:Loc)(b n:Nat)(row:List UInt8)(at_:List Nat)(H:Heap):Nat→Env→Heap→Prop:=λk env H1=>∃i m:Nat,i≤at_.length∧m≤100000∧abL l i (at_.drop i) m=abL l 0 at_ (aeS row)∧env=[(0,.iptr (shC l gr sc o b n)),(1,.str row),(2,afG at_ .shared),(6,.int .i64 (m:Int)),(14,afG at_ .shared),(15,.int .i64 (at_.length:Int)),(16,.int .i64 (i:Int))]∧H=H1∧k=at_.length-i
def brU(l:List ItN)(gr:Bool)(sc:Int)(o:Loc)(b n:Nat)(row:List UInt8)(at_:List Nat)(pcs:List Pc)(la:Nat)(H:Heap):Nat→Env→Heap→Prop:=λk env H1=>∃(i:Nat)(q:List Pc),i≤at_.length∧q.length=n∧aaQ l row la i (at_.drop i) q=aaQ l row la 0 at_ pcs∧env=[(0,.iptr (shC l gr sc o b n)),(1,.str row),(6,.int .i64 (la:Int)),(36,afG at_ .shared),(37,.int .i64 (at_.length:Int)),(38,.int .i64 (i:Int))]∧H1=H.set b (pcR q)∧k=at_.length-i
theorem axN(l:List ItN)(gr:Bool)(sc:Int)(o:Loc)(b n:Nat)(row:List UInt8)(at_:List Nat)(pcs:List Pc)(_:l.length≤100000)(hnl:n=l.length)(hpn:pcs.length=n)(hat:∀k,k∈at_→k<l.length)(hal:at_.length≤row.length)(hrl:row.length≤100000)(H:Heap)(hb:H.objs b=some (pcR pcs)):ACall prog 100 [.iptr (shC l gr sc o b n),.str row,afG at_ .shared] H (λ_ H'=>H'=H.set b (pcR (aaQ l row (abL l 0 at_ (aeS row)) 0 at_ pcs))):=by
 have htz:=cfL row;have htl:=bxW row;refine ACall.of_body func100 rfl ntmps100 results100 rfl ?_;iterate 3 refine AX ?_
 refine .cl rfl call151 (.cons (tm rfl) (.cons (zO rfl) .nil)) (trimRightA 48 aC _ _) ?_;iterate 13 refine AX ?_
 refine AWP.loopW (brV l gr sc o b n row at_ H) (at_.length) ⟨0,aeS row,Nat.zero_le _,by omega,rfl,rfl,rfl,rfl⟩ (zK rfl (zK rfl (zK rfl (zR rfl (by rw[htz]) sX)))) (hRa _) ?_;rintro _ _ _ ⟨i,m,hi,hm,hinv,rfl,rfl,rfl⟩;iterate 6 refine AX ?_
 refine AWP.cond (tm rfl) (λhc17=>?_) (λhc17=>?_)
 ·try simp only[aL]at hc17
  iterate 7 refine AX ?_
  refine .p rfl (aaY U30 Z3 (tm rfl) (tm rfl) aA (bbU (show i<at_.length by omega))) ?_;iterate 6 refine AX ?_
  have hkl:=atA hat (show i<at_.length by omega);have hdr:=bgT (show i<at_.length by omega);generalize at_.getD i 0=kk at *;iterate 3 refine AX ?_
  refine .p rfl (zA U89 rfl Z52 (tm rfl)) (.p rfl (zA U52 rfl Z50 (tm rfl)) ?_);iterate 3 refine AX ?_
  refine .p rfl (zA U57 rfl Z9 (tm rfl)) ?_;iterate 4 refine AX ?_
  refine AWP.cond (tm rfl) (λhc30=>?_) (λhc30=>?_)
  ·try simp only[aL]at hc30
   iterate 14 refine AX ?_
   refine Round.mk (J:=brV l gr sc o b n row at_ H) ⟨i+1,max m (i+1),by omega,by omega,by rw[←hinv,hdr,abL,aN ((abP hkl).symm.trans hc30)],rfl,rfl,rfl⟩ (zK rfl (zK rfl (zK rfl (zR rfl (by congr 1;unfold anA;split<;>omega) sX)))) (hRa _) aA
  try simp only[aL]at hc30
  iterate 8 refine AX ?_
  refine Round.mk (J:=brV l gr sc o b n row at_ H) ⟨i+1,m,by omega,hm,by rw[←hinv,hdr,abL,aM (λz=>hc30 ((abP hkl).trans z))],rfl,rfl,rfl⟩ sX (hRa _) aA
 try simp only[aL]at hc17
 iterate 6 refine AX ?_
 have hil:i=at_.length:=by omega
 subst hil;rw[fL,abL]at hinv;generalize abL l 0 at_ (aeS row)=la at hinv ⊢;subst hinv;iterate 7 refine AX ?_
 refine AWP.loopW (brU l gr sc o b n row at_ pcs m H) (at_.length) ⟨0,pcs,Nat.zero_le _,hpn,rfl,rfl,(Heap.set_self hb).symm,rfl⟩ sX (hRa _) ?_;rintro _ _ _ ⟨i,q,hi,hql,hinv,rfl,rfl,rfl⟩;iterate 6 refine AX ?_
 refine AWP.cond (tm rfl) (λhc39=>?_) (λhc39=>?_)
 ·try simp only[aL]at hc39
  iterate 7 refine AX ?_
  refine .p rfl (aaY U30 Z3 (tm rfl) (tm rfl) aA (bbU (show i<at_.length by omega))) ?_;iterate 6 refine AX ?_
  have hkl:=atA hat (show i<at_.length by omega);have hdr:=bgT (show i<at_.length by omega);generalize at_.getD i 0=kk at *;refine AWP.draw [(0,true),(1,true),(2,true),(3,true),(4,true),(5,true),(6,true),(7,true),(8,true),(9,true),(10,true),(11,true),(12,true),(13,true),(14,true),(15,true),(16,true),(17,false)] rfl aE ?_;iterate 2 refine AX ?_
  refine .p rfl rfl (zA U89 rfl Z87 (tm rfl)) ?_;iterate 4 refine AX ?_
  refine .p rfl rfl (zA U89 rfl Z52 (tm rfl)) (.p rfl rfl (zA U52 rfl Z50 (tm rfl)) ?_);iterate 3 refine AX ?_
  refine .p rfl rfl (zA U57 rfl Z9 (tm rfl)) (.p rfl rfl (zW G9 (tm rfl)) (.p rfl rfl (yY [(0,1),(1,1)] U183 V183 (zr183) rfl (pl183 _ U183) (.cons (tm rfl) (.inl rfl) .nil) rfl) (.p rfl rfl (aaT U183 rfl (tm rfl)) (.p rfl rfl (qL U87 Z147 (tm rfl) (tm rfl) aA aA) (.s0 rfl (aaN Pc.av (.hl l[kk].text []) kk Z147 (tm rfl) (tm rfl) rfl rfl (oS _ _ _) aA aA) ?_)))));rintro _ _ ⟨rfl,hH⟩;obtain rfl:=hH.symm;rw[sS];iterate 9 refine AX ?_
  refine AWP.cond (tm rfl) (λhc62=>?_) (λhc62=>?_)
  ·try simp only[aL]at hc62
   refine AWP.draw [(0,true),(1,true),(2,true),(3,true),(4,true),(5,true),(6,true),(7,true),(8,true),(9,true),(10,true),(11,true),(12,true),(13,false)] rfl aE ?_;iterate 2 refine AX ?_
   refine .p rfl rfl (zA U89 rfl Z87 (tm rfl)) ?_;iterate 5 refine AX ?_
   refine .p rfl rfl (yZ (tm rfl) zJ aA) (.p rfl rfl (aaJ U9 (tm rfl) (tm rfl) (tm rfl) aA aA aA) (.p rfl rfl (yY [(0,1)] U145 V145 (zr145) rfl (pl145 _ U145) (.cons (tm rfl) (.inl rfl) .nil) rfl) (.p rfl rfl (aaT U145 rfl (tm rfl)) (.p rfl rfl (qL U87 Z147 (tm rfl) (tm rfl) aA aA) (.s0 rfl (aaN Pc.av (.fx ((row.take ((i:Int)+1).toNat).drop (i:Int).toNat)) kk Z147 (tm rfl) (tm rfl) rfl rfl (oS _ _ _) aA (by rw[cP];omega)) ?_)))));rintro _ _ ⟨rfl,hH⟩;obtain rfl:=hH.symm;rw[sS,List.set_set,show((i:Int)+1).toNat=i+1 by omega,show(i:Int).toNat=i from rfl,arX (show i<row.length by omega)];iterate 8 refine AX ?_
   refine Round.mk (J:=brU l gr sc o b n row at_ pcs m H) ⟨i+1,_,by omega,by rw[cP];exact hql,by rw[←hinv,hdr,aaQ,aK],rfl,rfl,rfl⟩ sX (hRa _) aA
  try simp only[aL]at hc62
  iterate 8 refine AX ?_
  refine Round.mk (J:=brU l gr sc o b n row at_ pcs m H) ⟨i+1,_,by omega,by rw[cP];exact hql,by rw[←hinv,hdr,aaQ,aJ,abP hkl],rfl,rfl,rfl⟩ sX (hRa _) aA
 try simp only[aL]at hc39
 iterate 4 refine AX ?_
 refine Ret.go' .nil _ (hRa _) ?_;have hil:i=at_.length:=by omega
 subst hil;rw[fL,aaQ]at hinv;rw[hinv]
theorem cdO(l:List ItN)(gr:Bool)(sc:Int)(o:Loc)(b n:Nat)(ho:o.ok)(hs2:o.second=2∨o.second=3)(s:List UInt8)(hs:s.length≤110000)(last:Nat)(hlast:last≤800000){z:Int}{s':List UInt8}(hz:z=(last:Int))(he:s'=s):Fn 178 [.iptr (shC l gr sc o b n),.str s',.int .i64 z] (.str (ajQ (aaS o gr) s last)):=by
 intro H;subst hz;subst he;exact blY l gr sc o b n ho hs2 s' hs last hlast H
theorem ckH{row:List UInt8}{pl:Nat}{x:Int}(h1:x.toNat=row.length-pl)(h0:(i:Int)=0):(row.take x.toNat).drop (Int.toNat 0)=adS row (decide (i=0)) pl:=by
 unfold adS;rw[h1,aU aA,aN rfl];rfl
theorem ckI{row:List UInt8}{pl:Nat}{x y:Int}(h1:x.toNat=row.length-pl)(h2:y.toNat=row.length-1-pl)(h0:¬(i:Int)=0):(row.take x.toNat).drop y.toNat=adS row (decide (i=0)) pl:=by
 unfold adS;rw[h1,h2,aS aA,aM aF]
theorem bfS(row:List UInt8)(fst:Bool)(pl:Nat):(adS row fst pl).length≤row.length:=by
 unfold adS;rw[bO,aV];omega
def byR(l:List ItN)(gr:Bool)(sc:Int)(o:Loc)(b n:Nat)(row:List UInt8)(at_:List Nat)(pcs:List Pc)(H:Heap):Nat→Env→Heap→Prop:=λk env H1=>∃(i:Nat)(z:Bool)(q:List Pc),i≤at_.length∧q.length=n∧acF l (aaS o gr) row (decide (i=0)) z (at_.drop i) q=acF l (aaS o gr) row true false at_ pcs∧env=[(0,.iptr (shC l gr sc o b n)),(1,.str row),(2,afG at_ .shared),(6,.str (if z=true then [48]else [])),(13,afG at_ .shared),(14,.int .i64 (at_.length:Int)),(15,.int .i64 (i:Int))]∧H1=H.set b (pcR q)∧k=at_.length-i
theorem aiY(l:List ItN)(gr:Bool)(sc:Int)(o:Loc)(b n:Nat)(row:List UInt8)(at_:List Nat)(pcs:List Pc)(ho:o.ok)(hs2:o.second=2∨o.second=3)(_:l.length≤100000)(hnl:n=l.length)(hpn:pcs.length=n)(hat:∀k,k∈at_→k<l.length)(hal:at_.length≤100000)(hrl:row.length≤110000)(H:Heap)(hb:H.objs b=some (pcR pcs)):ACall prog 101 [.iptr (shC l gr sc o b n),.str row,afG at_ .shared] H (λ_ H'=>H'=H.set b (pcR (acF l (aaS o gr) row true false at_ pcs))):=by
 refine ACall.of_body func101 rfl ntmps101 results101 rfl ?_;iterate 13 refine AX ?_
 refine AWP.loopW (byR l gr sc o b n row at_ pcs H) (at_.length) ⟨0,false,pcs,Nat.zero_le _,hpn,rfl,rfl,(Heap.set_self hb).symm,rfl⟩ sX (hRa _) ?_;rintro _ _ _ ⟨i,z,q,hi,hql,hinv,rfl,rfl,rfl⟩;iterate 6 refine AX ?_
 refine AWP.cond (tm rfl) (λhc16=>?_) (λhc16=>?_)
 ·try simp only[aL]at hc16
  iterate 7 refine AX ?_
  refine .p rfl (aaY U30 Z3 (tm rfl) (tm rfl) aA (bbU (show i<at_.length by omega))) ?_;iterate 6 refine AX ?_
  have hkl:=atA hat (show i<at_.length by omega);have hdr:=bgT (show i<at_.length by omega);generalize at_.getD i 0=kk at *;rw[hdr,acF,bO]at hinv;generalize hz2:(z||decide (aaA l kk=[48]))=z2 at hinv;generalize hpl:at_.length-(i+1)=pl at hinv;iterate 13 refine AX ?_
  refine .p rfl (zA U89 rfl Z52 (tm rfl)) (.p rfl (zA U52 rfl Z50 (tm rfl)) ?_);iterate 3 refine AX ?_
  refine .p rfl (zA U57 rfl Z9 (tm rfl)) ?_;iterate 4 refine AX ?_
  refine AWP.meet (λenv H2=>env=[(0,.iptr (shC l gr sc o b n)),(1,.str row),(2,afG at_ .shared),(6,.str (if z2=true then [48]else [])),(7,.int .i64 (i:Int)),(8,.int .i64 (kk:Int)),(9,.int .i64 ((at_.length:Int)-1-(i:Int))),(10,.str (aaA l kk)),(13,afG at_ .shared),(14,.int .i64 (at_.length:Int)),(15,.int .i64 (i:Int))]∧H2=H.set b (pcR q)) ?_ ?_
  ·iterate 6 refine AX ?_
   refine AWP.cond (tm rfl) (λhc35=>?_) (λhc35=>?_)
   ·try simp only[aL]at hc35
    iterate 5 refine AX ?_
    refine Meets.mk (M:=λenv H2=>env=[(0,.iptr (shC l gr sc o b n)),(1,.str row),(2,afG at_ .shared),(6,.str (if z2=true then [48]else [])),(7,.int .i64 (i:Int)),(8,.int .i64 (kk:Int)),(9,.int .i64 ((at_.length:Int)-1-(i:Int))),(10,.str (aaA l kk)),(13,afG at_ .shared),(14,.int .i64 (at_.length:Int)),(15,.int .i64 (i:Int))]∧H2=H.set b (pcR q)) ⟨rfl,rfl⟩ (zK rfl (zK rfl (zK rfl (zR rfl (by rw[show z2=true by rw[←hz2,aU ((abP hkl).symm.trans hc35),Bool.or_true],aN rfl];exact congrArg AV.str hc35) (zK rfl (zK rfl (zK rfl (zR rfl (congrArg AV.str (abP hkl)) sX)))))))) (hRa _)
   try simp only[aL]at hc35
   iterate 2 refine AX ?_
   refine Meets.mk (M:=λenv H2=>env=[(0,.iptr (shC l gr sc o b n)),(1,.str row),(2,afG at_ .shared),(6,.str (if z2=true then [48]else [])),(7,.int .i64 (i:Int)),(8,.int .i64 (kk:Int)),(9,.int .i64 ((at_.length:Int)-1-(i:Int))),(10,.str (aaA l kk)),(13,afG at_ .shared),(14,.int .i64 (at_.length:Int)),(15,.int .i64 (i:Int))]∧H2=H.set b (pcR q)) ⟨rfl,rfl⟩ (zK rfl (zK rfl (zK rfl (zR rfl (by rw[←hz2,aS (λw=>hc35 ((abP hkl).trans w)),Bool.or_false]) (zK rfl (zK rfl (zK rfl (zR rfl (congrArg AV.str (abP hkl)) sX)))))))) (hRa _)
  rintro _ _ ⟨rfl,rfl⟩;refine AWP.meet (λenv H2=>env=[(0,.iptr (shC l gr sc o b n)),(1,.str row),(2,afG at_ .shared),(6,.str (if z2=true then [48]else [])),(7,.int .i64 (i:Int)),(8,.int .i64 (kk:Int)),(9,.int .i64 ((at_.length:Int)-1-(i:Int))),(10,.str (if z2=true then [48]else aaA l kk)),(13,afG at_ .shared),(14,.int .i64 (at_.length:Int)),(15,.int .i64 (i:Int))]∧H2=H.set b (pcR q)) ?_ ?_
  ·iterate 6 refine AX ?_
   refine AWP.cond (tm rfl) (λhc38=>?_) (λhc38=>?_)
   ·try simp only[aL]at hc38
    iterate 5 refine AX ?_
    refine Meets.mk (M:=λenv H2=>env=[(0,.iptr (shC l gr sc o b n)),(1,.str row),(2,afG at_ .shared),(6,.str (if z2=true then [48]else [])),(7,.int .i64 (i:Int)),(8,.int .i64 (kk:Int)),(9,.int .i64 ((at_.length:Int)-1-(i:Int))),(10,.str (if z2=true then [48]else aaA l kk)),(13,afG at_ .shared),(14,.int .i64 (at_.length:Int)),(15,.int .i64 (i:Int))]∧H2=H.set b (pcR q)) ⟨rfl,rfl⟩ (zK rfl (zK rfl (zK rfl (zK rfl (zK rfl (zK rfl (zK rfl (zR rfl (by cases z2 with|true=>rfl|false=>exact absurd rfl hc38) sX)))))))) (hRa _)
   try simp only[aL]at hc38
   iterate 2 refine AX ?_
   refine Meets.mk (M:=λenv H2=>env=[(0,.iptr (shC l gr sc o b n)),(1,.str row),(2,afG at_ .shared),(6,.str (if z2=true then [48]else [])),(7,.int .i64 (i:Int)),(8,.int .i64 (kk:Int)),(9,.int .i64 ((at_.length:Int)-1-(i:Int))),(10,.str (if z2=true then [48]else aaA l kk)),(13,afG at_ .shared),(14,.int .i64 (at_.length:Int)),(15,.int .i64 (i:Int))]∧H2=H.set b (pcR q)) ⟨rfl,rfl⟩ (zK rfl (zK rfl (zK rfl (zK rfl (zK rfl (zK rfl (zK rfl (zR rfl (by cases z2 with|true=>exact absurd hc38 aF|false=>rfl) sX)))))))) (hRa _)
  rintro _ _ ⟨rfl,rfl⟩;iterate 9 refine AX ?_
  refine AWP.cond (tm rfl) (λhc43=>?_) (λhc43=>?_)
  ·try simp only[aL]at hc43
   refine AX ?_;refine AWP.draw [(0,true),(1,true),(2,true),(3,true),(4,true),(5,true),(6,true),(7,true),(8,true),(9,true),(10,true),(11,true),(12,false)] rfl aE ?_;iterate 2 refine AX ?_
   refine .p rfl rfl (zA U89 rfl Z87 (tm rfl)) ?_;iterate 3 refine AX ?_
   refine .p rfl rfl (zG (tm rfl)) (.p rfl rfl (zG (tm rfl)) ?_);refine APlan.f rfl rfl (λ_=>zB call177 (evs2 rfl rfl) (bsD _ _ _ _ _ _ hs2 pl aA aA _)) ?_;refine .p rfl rfl (yY [(0,1),(1,1)] U183 V183 (zr183) rfl (pl183 _ U183) (.cons (tm rfl) (.inl rfl) (.cons (tm rfl) (.inl rfl) .nil)) rfl) (.p rfl rfl (aaT U183 rfl (tm rfl)) (.p rfl rfl (qL U87 Z147 (tm rfl) (tm rfl) aA aA) (.s0 rfl (aaN Pc.av (.hl (if z2=true then [48]else aaA l kk) (aaS o gr pl)) kk Z147 (tm rfl) (tm rfl) rfl rfl (oS _ _ _) aA aA) ?_)));rintro _ _ ⟨rfl,hH⟩;obtain rfl:=hH.symm;rw[sS];iterate 11 refine AX ?_
   refine Round.mk (J:=byR l gr sc o b n row at_ pcs H) ⟨i+1,z2,_,by omega,by rw[cP];exact hql,by rw[show decide (i+1=0)=false by simp,←hinv,aN (show row.length≤pl by omega)],rfl,rfl,rfl⟩ sX (hRa _) aA
  try simp only[aL]at hc43
  iterate 25 refine AX ?_
  refine AWP.cond (tm rfl) (λhc63=>?_) (λhc63=>?_)
  ·try simp only[aL]at hc63
   iterate 4 refine AX ?_
   refine AWP.draw [(0,true),(1,true),(2,true),(3,true),(4,true),(5,true),(6,true),(7,true),(8,true),(9,true),(10,true),(11,true),(12,false),(13,true),(14,true),(15,true),(16,false)] rfl aE ?_;iterate 2 refine AX ?_
   refine .p rfl rfl (zA U89 rfl Z87 (tm rfl)) ?_;iterate 7 refine AX ?_
   refine .p rfl rfl (aaJ U9 (tm rfl) (tm rfl) (tm rfl) aA aA aA) (.p rfl rfl (zG (tm rfl)) ?_);refine .s rfl rfl (zB call178 (evs3 rfl rfl rfl) (cdO _ _ _ _ _ _ ho hs2 (adS row (decide (i=0)) pl) (by have:=bfS row (decide (i=0)) pl;omega) pl aA aA (ckH aA hc63) _)) ?_;rintro _ _ ⟨rfl,hH⟩;obtain rfl:=hH.symm;refine .p rfl rfl (yY [(0,1)] U145 V145 (zr145) rfl (pl145 _ U145) (.cons (tm rfl) (.inl rfl) .nil) rfl) (.p rfl rfl (aaT U145 rfl (tm rfl)) (.p rfl rfl (qL U87 Z147 (tm rfl) (tm rfl) aA aA) (.s0 rfl (aaN Pc.av (.fx (ajQ (aaS o gr) (adS row (decide (i=0)) pl) pl)) kk Z147 (tm rfl) (tm rfl) rfl rfl (oS _ _ _) aA aA) ?_)));rintro _ _ ⟨rfl,hH⟩;obtain rfl:=hH.symm;rw[sS];iterate 8 refine AX ?_
   refine Round.mk (J:=byR l gr sc o b n row at_ pcs H) ⟨i+1,z2,_,by omega,by rw[cP];exact hql,by rw[show decide (i+1=0)=false by simp,←hinv,aM (show¬row.length≤pl by omega)],rfl,rfl,rfl⟩ sX (hRa _) aA
  try simp only[aL]at hc63
  iterate 2 refine AX ?_
  refine AWP.draw [(0,true),(1,true),(2,true),(3,true),(4,true),(5,true),(6,true),(7,true),(8,true),(9,true),(10,true),(11,true),(12,false),(13,true),(14,true),(15,true),(16,false)] rfl aE ?_;iterate 2 refine AX ?_
  refine .p rfl rfl (zA U89 rfl Z87 (tm rfl)) ?_;iterate 7 refine AX ?_
  refine .p rfl rfl (aaJ U9 (tm rfl) (tm rfl) (tm rfl) aA aA aA) (.p rfl rfl (zG (tm rfl)) ?_);refine .s rfl rfl (zB call178 (evs3 rfl rfl rfl) (cdO _ _ _ _ _ _ ho hs2 (adS row (decide (i=0)) pl) (by have:=bfS row (decide (i=0)) pl;omega) pl aA aA (ckI aA aA hc63) _)) ?_;rintro _ _ ⟨rfl,hH⟩;obtain rfl:=hH.symm;refine .p rfl rfl (yY [(0,1)] U145 V145 (zr145) rfl (pl145 _ U145) (.cons (tm rfl) (.inl rfl) .nil) rfl) (.p rfl rfl (aaT U145 rfl (tm rfl)) (.p rfl rfl (qL U87 Z147 (tm rfl) (tm rfl) aA aA) (.s0 rfl (aaN Pc.av (.fx (ajQ (aaS o gr) (adS row (decide (i=0)) pl) pl)) kk Z147 (tm rfl) (tm rfl) rfl rfl (oS _ _ _) aA aA) ?_)));rintro _ _ ⟨rfl,hH⟩;obtain rfl:=hH.symm;rw[sS];iterate 8 refine AX ?_
  refine Round.mk (J:=byR l gr sc o b n row at_ pcs H) ⟨i+1,z2,_,by omega,by rw[cP];exact hql,by rw[show decide (i+1=0)=false by simp,←hinv,aM (show¬row.length≤pl by omega)],rfl,rfl,rfl⟩ sX (hRa _) aA
 try simp only[aL]at hc16
 iterate 4 refine AX ?_
 refine Ret.go' .nil _ (hRa _) ?_;have hil:i=at_.length:=by omega
 subst hil;rw[fL,acF]at hinv;rw[hinv]
end
end Go.Proofs.YteedncdcbgplfaaGreatDoor
