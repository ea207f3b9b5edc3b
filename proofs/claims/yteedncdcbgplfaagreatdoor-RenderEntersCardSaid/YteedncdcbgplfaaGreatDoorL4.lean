import Derived.Test.YteedncdcbgplfaaGreatDoorL3
import Derived.Test.YteedncdcbgplfaaGreatDoorB3
set_option maxHeartbeats 1000000
namespace Go.Proofs.YteedncdcbgplfaaGreatDoor
open Go.Proofs.Tryz
open Go Go.RowKit
variable{l o:Loc}{m x y:Nat}{neg:Bool}
theorem byW(mk:Nat→List UInt8)(a b:List UInt8)(last:Nat):ajQ mk (a++b) last=ajQ mk a (last+b.length)++ajQ mk b last:=by
 induction a with
 |nil=>rfl
 |cons x a ih=>
  rw[eE,ajQ,ih,ajQ,aO,show last+(a.length+b.length)=last+b.length+a.length by omega,eE,bK,eE]
theorem bkF(l:Loc)(c:UInt8)(t:List UInt8):gRo l 0 (c::t) true=c::gRo l 0 t false:=by
 rw[gRo,aM (λh=>Bool.noConfusion h.1)];rfl
theorem bvJ(l:Loc)(t:List UInt8):gRo l 0 t false=(if t=[]then []else aaS l true t.length)++gRo l 0 t true:=by
 cases t with
 |nil=>rfl
 |cons c t=>
  have e0:gRo l 0 (c::t) false=(if false=false∧atX l (t.length+1+0)then l.grp else [])++c::gRo l 0 t false:=rfl;rw[e0,bkF,aM (List.cons_ne_nil c t)];congr 1;unfold aaS atX clX;rw[aW,cA];by_cases h:3≤t.length+1∧(t.length+1-3)%l.second=0
  ·rw[aN ⟨rfl,h⟩,aN ⟨rfl,h.1,h.2⟩]
  rw[aM (λq=>h q.2),aM (λq=>h ⟨q.2.1,q.2.2⟩)]
theorem cjT(l:Loc)(w:List UInt8):ajQ (aaS l true) w 0=gR l w:=by
 unfold gR;induction w with
 |nil=>rfl
 |cons c t ih=>
  rw[ajQ,ih,bkF,bvJ,bZ];cases t with
  |nil=>rw[aN rfl,show aaS l true ([]:List UInt8).length=[]from bbX (.inr rfl)];rfl
  |cons d t=>rw[aM (List.cons_ne_nil _ _),eE]
theorem brR(hs:l.second=2∨l.second=3)(w:List UInt8):ajQ (aaS l true) w 0=ajB l w:=by rw[cjT,bgN hs]
def chY:ItN:=⟨2,[35]⟩
def aeN(n:Nat):List ItN:=[chY,chY,chY,alC]++(if n=0 then []else bnH::List.replicate n alC)
def cmU(n:Nat):List UInt8:=[35,44,35,35,48]++(if n=0 then []else 46::List.replicate n 48)
instance:DecidableEq ItN:=λx y=>decidable_of_iff (x.kind=y.kind∧x.text=y.text) ⟨λh=>by cases x;cases y;simp_all,λh=>by subst h;exact⟨rfl,rfl⟩⟩
instance:DecidableEq SecN:=λx y=>decidable_of_iff (x.items=y.items∧x.grouped=y.grouped∧x.scale=y.scale) ⟨λh=>by cases x;cases y;simp_all,λh=>by subst h;exact⟨rfl,rfl,rfl⟩⟩
def cmS(n:Nat):Bool:=
 decide (akW (cmU n)=some [⟨aeN n,true,0⟩])&&aeP [⟨aeN n,true,0⟩]&&decide (yH ⟨aeN n,true,0⟩=2)&&decide (aiT (aeN n)=[0,1,2,3])&&decide (acZ (aeN n)=List.range' 5 n)&&decide (zZ (aeN n) [5]=(aeN n).length)&&decide (zZ (aeN n) [4]=(aeN n).length)
theorem bzU:(List.range 21).all cmS=true:=by kernel_rfl
structure FactsE (n:Nat):Prop where
 parse:akW (cmU n)=some [⟨aeN n,true,0⟩]
 right:aeP [⟨aeN n,true,0⟩]=true
 shape:yH ⟨aeN n,true,0⟩=2
 ahd:aiT (aeN n)=[0,1,2,3]
 bhd:acZ (aeN n)=List.range' 5 n
 c5:zZ (aeN n) [5]=(aeN n).length
 c4:zZ (aeN n) [4]=(aeN n).length
theorem factsE{n:Nat}(hn:n<21):FactsE n:=by
 have h:=eD.1 bzU n (gA.2 hn);unfold cmS at h;simp only[bN,aT]at h;exact⟨h.1.1.1.1.1.1,h.1.1.1.1.1.2,h.1.1.1.1.2,h.1.1.1.2,h.1.1.2,h.1.2,h.2⟩
theorem blD{l:List ItN}(h0:aaA l 0=[35])(h1:aaA l 1=[35])(h2:aaA l 2=[35])(h3:aaA l 3=[48])(o:Loc)(row:List UInt8)(x0 x1 x2 x3:List UInt8)(rest:List (List UInt8)):
  (aiM l (aaS o true) row true false [0,1,2,3] (x0::x1::x2::x3::rest)).flatten=ajQ (aaS o true) (if row=[]then [48]else row) 0++rest.flatten:=by
 have e35:decide (([35]:List UInt8)=[48])=false:=by decide
 have n63:¬(([35]:List UInt8)=[63]):=by decide
 simp only[aiM,h0,h1,h2,h3,e35,Bool.or_self,Bool.false_or,aW,bG,decide_true,if_true,aM n63,dN,if_false];have key:∀a b c d:List UInt8,a++b++c++d=ajQ (aaS o true) (if row=[]then [48]else row) 0→(((((x0::x1::x2::x3::rest).set 0 a).set 1 b).set 2 c).set 3 d).flatten=ajQ (aaS o true) (if row=[]then [48]else row) 0++rest.flatten:=by
  intro a b c d e;show(a::b::c::d::rest).flatten=_;rw[←e];simp
 refine key _ _ _ _ ?_;have hm0:aaS o true 0=[]:=bbX (.inr rfl)
 match row with
 | []=>simp[ajQ,hm0]
 | [p]=>simp[ajQ,adS,hm0]
 | [p,q]=>simp[ajQ,adS,hm0]
 | [p,q,r]=>simp[ajQ,adS,hm0]
 |a::b::c::d::t=>
  obtain⟨u,p,q,r,hu⟩:∃u p q r,a::b::c::d::t=(u++[p,q,r]:List UInt8)∧u≠[]:=by
   have hl:((a::b::c::d::t).drop (t.length+1)).length=3:=by rw[bO];simp only[aW];omega
   match hd:(a::b::c::d::t).drop (t.length+1),hl with
   | [p,q,r],_=>
    refine⟨(a::b::c::d::t).take (t.length+1),p,q,r,by rw[←hd,cK],?_⟩;simp
  obtain⟨hu,hne⟩:=hu;have hul:=bV.2 hne;have hne2:¬(u++[p,q,r]=[]):=by simp
  rw[hu,aM hne2];have hL:(u++[p,q,r]).length=u.length+3:=by simp
  have p3:adS (u++[p,q,r]) true 3=u:=by unfold adS;rw[hL];simp
  have p2:adS (u++[p,q,r]) false 2=[p]:=by
   unfold adS;rw[hL,show u.length+3-2=u.length+1 by omega,show u.length+3-1-2=u.length by omega,gX];simp
  have p1:adS (u++[p,q,r]) false 1=[q]:=by
   unfold adS;rw[hL,show u.length+3-1=u.length+2 by omega,show u.length+2-1=u.length+1 by omega,gX,fF];simp
  have p0:adS (u++[p,q,r]) false 0=[r]:=by
   unfold adS;rw[hL,show u.length+3-0=u.length+3 by omega,show u.length+3-1-0=u.length+2 by omega,gX,fF];simp
  rw[aN (by rw[hL];omega),aN (by rw[hL];omega),aN (by rw[hL];omega),aN (by rw[hL];omega),p3,p2,p1,p0,byW];simp[ajQ,hm0]
theorem baS{n:Nat}{e:Int}{more:Bool}(h:e+yN n≤1000):yD false n e more<anL:=by
 unfold yD;split
 ·show(0:Nat)<anL;decide
 split
 ·omega
 rw[arV];have hu:yC n e≤947:=by unfold yC;split<;>omega
 have hl:=apM n e;have h1:=btA hl (ajA n e more);have h2:acH 4503599627370496 (yC n e+1)<anL:=by
  unfold acH anL;rw[aJ,aJ];omega
 show 0+_<_;omega
theorem aqY{t:Int}(hm:m<9007199254740992)(h0:0≤t)(ht:t≤971):yD false m t false<anL:=by
 unfold yD;split
 ·show(0:Nat)<anL;decide
 rename_i hz
 have hm0:0<m:=eL λq=>hz (.inl q);rw[aJ,arV];have e53:(9007199254740992:Nat)=2^53:=by decide
 have hb:yN m≤53:=qI.2 (by rw[←e53];exact hm);have hu:yC m t=t+yN m-53:=by unfold yC;rw[aJ]
 have hhi:m*2^(53-yN m)<9007199254740992:=by
  have h2:=dE (afA m) (show 0<2^(53-yN m)from bL aC);rw[←bI,show yN m+(53-yN m)=53 by omega]at h2;omega
 have hmm:abX m t false=m*2^(53-yN m):=by
  unfold abX;rw[hu,aK];congr 2;omega
 rw[hmm,hu];generalize m*2^(53-yN m)=q at *;show 0+pk q _<anL;unfold pk acH anL;rw[aJ];split
 ·omega
 rw[aJ];omega
theorem btQ(n:Nat):num (List.replicate n 48)=0:=by
 induction n with
 |zero=>rfl
 |succ n ih=>rw[eY,ckQ,ih]
theorem ccJ(s:List UInt8):num (abE s)*10^adT s=num s:=by
 obtain⟨n,hn⟩:=ahY (akP s) 48;have h1:num (akP s)=num s:=arY s;have h2:adT s=n:=by
  unfold adT abE;have:=congrArg List.length hn;rw[aO,bE]at this;omega
 rw[h2,←h1,hn,ahL,btQ,bE,cA];rfl
theorem ckU{s:List UInt8}(hl:s.length≤1000)(neg:Bool):num (mkN neg s 0).1.2.1*10^(mkN neg s 0).1.2.2.toNat=num s:=by
 have hc:=ccJ s;have h1:(akP s).length≤s.length:=(List.dropWhile_suffix _).length_le;have h2:(abE s).length≤(akP s).length:=afK _ _;have h3:adT s≤s.length:=by unfold adT;omega
 unfold mkN;split
 ·rename_i h
  rw[h]at hc;show num []*10^0=_;rw[←hc,show num []=0 from rfl,dO,dO]
 rw[aN (by unfold okD;omega)];show num (abE s)*10^((0:Int)+(adT s:Int)).toNat=_;rw[show((0:Int)+(adT s:Int)).toNat=adT s by omega];exact hc
theorem cgW{e:Int}(hm:m<18014398509481984)(he:0≤e∧e≤972):num (ofN neg m e).2.1*10^(ofN neg m e).2.2.toNat=m*2^e.toNat:=by
 obtain⟨K,J,hK,hJ,hB⟩:=bqM;have h1:m*2^e.toNat≤18014398509481984*2^J:=eN aA (bB aC aA);have h2:(dec (m*2^e.toNat)).length≤K:=(afX aA).2 (bA h1 hB);unfold ofN;rw[aN he.1,ckU aA,cgZ]
theorem bbZ{e:Int}(hm:m<9007199254740992)(he:e<0):zU (ofN neg m e).2.1 (ofN neg m e).2.2≤20:=by
 unfold ofN;rw[aJ];obtain⟨h1,_⟩:=alX (-e).toNat m;generalize afZ m (-e).toNat=q at *;obtain⟨m2,k⟩:=q;have h1:m2≤m:=h1;have h2:m2*5^k<10^(16+k):=by
  rw[bI];have h3:5^k≤10^k:=Nat.pow_le_pow_left aC k;have h4:m2*5^k≤m2*10^k:=bS _ h3;have h5:m2*10^k<10^16*10^k:=dE aA (bL aC);omega
 have h6:=(afX (k:=16+k) aA).2 h2;have h7:=ayL (neg:=neg) (e:= -(k:Int)) (akH (m2*5^k));exact Int.le_trans h7 aA
theorem cfR:∃a b:Nat,a=300∧b=997∧10^a≤2^b:=⟨300,997,rfl,rfl,by decide+kernel⟩
theorem bzH{k:Int}{L:Nat}(hm:m<10^L)(hp:(L:Int)+k≤300)(hk: -2000≤k):aiQ m k<anL:=by
 obtain⟨a,b,ha,hb,h10⟩:=cfR;unfold aiQ;split
 ·rename_i h0
  refine baS ?_;have h1:m*10^k.toNat<2^b:=by
   have h2:m*10^k.toNat<10^L*10^k.toNat:=dE hm (bL aC);rw[←bI]at h2;have h3:10^(L+k.toNat)≤10^a:=bB aC aA;omega
  have:=qI.2 h1;omega
 rename_i h0
 unfold bbE;refine baS ?_;generalize hK:yN (10^(-k).toNat)+127=K;have hpos:0<10^(-k).toNat:=bL aC;have h1:m*2^K/10^(-k).toNat<2^(b+K):=by
  refine Nat.div_lt_of_lt_mul ?_;rw[bI,←bJ];refine dE ?_ (bL aC);have h3:10^L≤10^((-k).toNat+a):=bB aC aA;rw[bI]at h3;have h4:10^(-k).toNat*10^a≤10^(-k).toNat*2^b:=bS _ h10;omega
 have:=qI.2 h1;omega
theorem agN(hk:yK y<3):yS y=(ofN (alN y) (yA y) (zP y),0):=by unfold yS;rw[aJ]
theorem btD(_:yK y<3):zP y≤971:=by
 unfold zP;split
 ·decide
 split
 ·rename_i h1 h2
  have:y/4503599627370496%2048≠2047:=by
   intro q;unfold yK at h2;rw[aN q]at h2;split at h2<;>omega
  have:=bR (y/4503599627370496) (by decide:0<2048);omega
 decide
theorem ciD{n:Nat}(hk:yK y<3):agA (yL (yS y).1.1 (yS y).1.2.1 (yS y).1.2.2 (n:Int)).2.1 (yL (yS y).1.1 (yS y).1.2.1 (yS y).1.2.2 (n:Int)).2.2<anL:=by
 have hdr:=qP y;have hpt:=agI (neg:=(yS y).1.1) (k:=(n:Int)) hdr aA;have hrr:=aaD (neg:=(yS y).1.1) (k:=(n:Int)) hdr;have hinf:(0:Nat)<anL:=by decide
 by_cases h0:(yL (yS y).1.1 (yS y).1.2.1 (yS y).1.2.2 (n:Int)).2.1=[]
 ·unfold agA;rw[aN (.inl h0)];exact hinf
 have hl:=yX hrr;have hp:=qU hrr;obtain⟨_,hnum⟩:=arC hrr h0;by_cases hlow:((yL (yS y).1.1 (yS y).1.2.1 (yS y).1.2.2 (n:Int)).2.1.length:Int)+(yL (yS y).1.1 (yS y).1.2.1 (yS y).1.2.2 (n:Int)).2.2< -330
 ·unfold agA;rw[aN (.inr hlow)];exact hinf
 by_cases hhi:zU (yL (yS y).1.1 (yS y).1.2.1 (yS y).1.2.2 (n:Int)).2.1 (yL (yS y).1.1 (yS y).1.2.1 (yS y).1.2.2 (n:Int)).2.2≤300
 ·rw[aqM hrr h0 aA];exact bzH hnum aA aA
 have hpm:=acN y;have hpe:=aaZ y;have hyp:299≤zU (yS y).1.2.1 (yS y).1.2.2:=by omega
 have he:0≤zP y:=by
  rcases Int.lt_or_le (zP y) 0 with q|q
  ·have:=bbZ (neg:=alN y) hpm q;rw[agN hk]at hyp;have hyp:299≤zU (ofN (alN y) (yA y) (zP y)).2.1 (ofN (alN y) (yA y) (zP y)).2.2:=hyp;omega
  exact q
 have hex:0≤(yS y).1.2.2:=by rw[agN hk];exact caC _ _ he
 have hyd:=qU hdr;have hsame:yL (yS y).1.1 (yS y).1.2.1 (yS y).1.2.2 (n:Int)=((yS y).1.1,(yS y).1.2.1,(yS y).1.2.2):=by
  unfold yL adF;rw[aJ]
 rw[hsame]at h0 hrr hlow hhi ⊢;have hlow:¬((yS y).1.2.1.length:Int)+(yS y).1.2.2< -330:=hlow;have hle:zU (yS y).1.2.1 (yS y).1.2.2≤310:=by rw[agN hk];exact amR aA ⟨he,hpe.2⟩
 show agA (yS y).1.2.1 (yS y).1.2.2<anL;have h0:(yS y).1.2.1≠[]:=h0;rw[aqM hdr h0 aA];unfold aiQ;rw[aN hex];have hn:num (yS y).1.2.1*10^(yS y).1.2.2.toNat=yA y*2^(zP y).toNat:=by rw[agN hk];exact cgW aA ⟨he,hpe.2⟩
 rw[hn,adN aA aA,Int.zero_add];refine aqY hpm aA ?_;have:=btD hk;omega
theorem bjW{n:Nat}:(aeN n).length=if n=0 then 4 else 5+n:=by
 unfold aeN;split
 ·rfl
 simp;omega
theorem cbG{n j:Nat}(h:5≤j)(h2:j<5+n):aaA (aeN n) j=[48]:=by
 unfold aaA aeN;rw[aJ,aP];obtain⟨k,rfl⟩:∃k,j=k+5:=⟨j-5,by omega⟩;show((List.replicate n alC)[k]?.getD ⟨0,[]⟩).text=[48];rw[gF,aK];rfl
theorem cbH(o:Loc)(n:Nat):((aeN n).map (aeL o)).map Pc.txt=[]::[]::[]::[]::(if n=0 then []else o.dc::List.replicate n []):=by
 unfold aeN;split
 ·rfl
 show []::[]::[]::[]::(aeL o bnH).txt::((List.replicate n alC).map (aeL o)).map Pc.txt=_;rw[fC,fC];rfl
theorem ayE{n:Nat}(h:FactsE n)(neg:Bool)(ds:List UInt8)(e:Int):apE (aeN n) 0 neg ds e=yL neg ds e (n:Int):=by
 unfold apE bjJ;rw[h.c5,aM (fX _),h.c4,aM (fX _),bqT ds e rfl,h.bhd,fN]
theorem bgM (ho : o.ok) {n : Nat} (hn : n < 21) (h : FactsE n) {ds : List UInt8} {e : Int} (hr : yE ds e = true) (hp : -4000 ≤ zU ds e ∧ zU ds e ≤ 4000) :
  afY (bdO (aeN n) true 0 o neg ds e ((aeN n).map (aeL o))) = ajQ (aaS o true) (if (abJ (yL neg ds e (n : Int)) n).1 = [] then [48] else (abJ (yL neg ds e (n : Int)) n).1) 0 ++ (if n = 0 then [] else o.dc ++ (abJ (yL neg ds e (n : Int)) n).2) := by
 have hlen := bjW (n := n)
 have hl2 : (aeN n).length ≤ 30 := by rw [hlen]; split <;> omega
 have hnl := (btS (s := ⟨aeN n, true, 0⟩) (neg := neg) ho (.inl h.shape) (by show (aeN n).length ≤ 100; omega) hr hp).1
 have hnl : (bdO (aeN n) true 0 o neg ds e ((aeN n).map (aeL o))).map Pc.txt = bfX (aeN n) true 0 o neg ds e (((aeN n).map (aeL o)).map Pc.txt) := hnl
 unfold afY
 rw [hnl]
 have hok := asB (l := aeN n) (sc := 0) (neg := neg) hr hp aA aA
 have hsl := (aiA hok.1 hok.2).1
 rw [ayE h, h.bhd, fN] at hsl
 unfold bfX ceG
 rw [h.c5, aM (fX _), h.ahd, h.bhd, ayE h, fN]
 generalize abJ (yL neg ds e (n : Int)) n = S at *
 unfold whW
 rw [aM (show ¬ ([0, 1, 2, 3] : List Nat).length = 0 by simp), cbH]
 have h4 : ∀ j, j < 4 → aaA (aeN n) j = if j = 3 then [48] else [35] := by
  intro j hj
  match j, hj with
  | 0, _ => rfl
  | 1, _ => rfl
  | 2, _ => rfl
  | 3, _ => rfl
 have key : ∀ rest : List (List UInt8), (aiM (aeN n) (aaS o true) S.1 true false [0, 1, 2, 3] ([] :: [] :: [] :: [] :: rest)).flatten = ajQ (aaS o true) (if S.1 = [] then [48] else S.1) 0 ++ rest.flatten :=
  fun rest => blD (h4 0 aA) (h4 1 aA) (h4 2 aA) (h4 3 aA) o S.1 [] [] [] [] rest
 by_cases h0 : n = 0
 ·subst h0
  rw [aN rfl, aN rfl]
  exact key []
 rw [aM h0, aM h0]
 have hq : ([] :: [] :: [] :: [] :: (o.dc :: List.replicate n []) : List (List UInt8)).length = 5 + n := by simp; omega
 rw [alL n 0 5 _ (by rw [hq]; omega) aA (fun j h1 h2 => cbG h1 h2)]
 have e2 : ([] :: [] :: [] :: [] :: (o.dc :: List.replicate n []) : List (List UInt8)).drop (5 + n) = [] := cS (by rw [hq]; omega)
 have e3 : S.2.take n = S.2 := aY aA
 rw [e2, bU, dL, e3]
 show (aiM (aeN n) (aaS o true) S.1 true false [0, 1, 2, 3] ([] :: [] :: [] :: [] :: (o.dc :: S.2.map fun x => [x]))).flatten = _
 rw [key, List.flatten_cons, asO]
theorem bbO(x:Nat):yA (abZ x)=yA x∧zP (abZ x)=zP x:=by
 have hk:=akJ x;unfold yA zP;rw[hk];have h1:abZ x%4503599627370496=x%4503599627370496:=by unfold abZ;omega
 have h2:abZ x/4503599627370496%2048=x/4503599627370496%2048:=by unfold abZ;omega
 rw[h1,h2];exact⟨rfl,rfl⟩
theorem bgB(a b:Bool)(s:List UInt8)(e:Int):(mkN a s e).1.2=(mkN b s e).1.2:=by
 unfold mkN;split;rfl;split<;>rfl
theorem bmA(a b:Bool)(ds:List UInt8)(e k:Int):(yL a ds e k).2=(yL b ds e k).2:=by
 unfold yL adF;split
 ·unfold bcY;exact bgB _ _ _ _
 rfl
theorem ccG(hk:yK x<3):(yS (abZ x)).1.2=(yS x).1.2:=by
 rw[agN hk,agN (by rw[akJ];exact hk),(bbO x).1,(bbO x).2];unfold ofN;split
 ·exact bgB _ _ _ _
 exact bgB _ _ _ _
def ahC(x n:Nat):Bool:=decide (x/9223372036854775808=1)&&decide ((yL (yS x).1.1 (yS x).1.2.1 (yS x).1.2.2 (n:Int)).2.1≠[])
theorem ayF(ho:o.ok)(hs2:o.second=2∨o.second=3){n:Nat}(hn:n<21)(h:FactsE n)(hk:yK x<3):
  abW o [⟨aeN n,true,0⟩] x=((if ahC x n=true then o.minus else [])++afI o true (amO (abJ (yL (yS x).1.1 (yS x).1.2.1 (yS x).1.2.2 (n:Int)) n).1 true 1) (abJ (yL (yS x).1.1 (yS x).1.2.1 (yS x).1.2.2 (n:Int)) n).2,0):=by
 have hka:yK (abZ x)<3:=by rw[akJ];exact hk
 have hD:(yL (yS (abZ x)).1.1 (yS (abZ x)).1.2.1 (yS (abZ x)).1.2.2 (n:Int)).2=(yL (yS x).1.1 (yS x).1.2.1 (yS x).1.2.2 (n:Int)).2:=by
  have hd:=ccG hk;rw[show(yS (abZ x)).1.2.1=(yS x).1.2.1 from congrArg Prod.fst hd,show(yS (abZ x)).1.2.2=(yS x).1.2.2 from congrArg Prod.snd hd];exact bmA _ _ _ _ _
 have hS:abJ (yL (yS (abZ x)).1.1 (yS (abZ x)).1.2.1 (yS (abZ x)).1.2.2 (n:Int)) n=abJ (yL (yS x).1.1 (yS x).1.2.1 (yS x).1.2.2 (n:Int)) n:=by
  unfold abJ;rw[hD]
 have e:abM o ⟨aeN n,true,0⟩ x=(bdO (aeN n) true 0 o (yS (abZ x)).1.1 (yS (abZ x)).1.2.1 (yS (abZ x)).1.2.2 ((aeN n).map (aeL o)),decide ((yL (yS x).1.1 (yS x).1.2.1 (yS x).1.2.2 (n:Int)).2.1≠[])):=by
  unfold abM;rw[h.shape,aM aC,aM aC,aN (.inl rfl)];show(_,decide ((apE (aeN n) 0 (yS (abZ x)).1.1 (yS (abZ x)).1.2.1 (yS (abZ x)).1.2.2).2.1≠[]))=_;rw[ayE h,hD]
 have hok:=aaD (neg:=(yS x).1.1) (k:=(n:Int)) (qP x);have hex:=acW (neg:=(yS x).1.1) (k:=(n:Int)) (qP x);have hsl:=(aiA hok hex).1;unfold abW;rw[aM (by rw[h.right];simp),aM (show¬3≤yK x by omega),brQ,e,bgM ho hn h (qP (abZ x)) (ajF hka),hS];generalize abJ (yL (yS x).1.1 (yS x).1.2.1 (yS x).1.2.2 (n:Int)) n=S at *;have hw:(if S.1=[]then [48]else S.1)=amO S.1 true 1:=by
  unfold amO;by_cases q:S.1=[]
  ·rw[aN q,aM (show¬(1:Nat)=0 by decide),q];rfl
  have:=bV.2 q;rw[aM q,aM (show¬(1:Nat)=0 by decide),show 1-S.1.length=0 by omega];rfl
 have hr:(if n=0 then([]:List UInt8)else o.dc++S.2)=if S.2=[]then []else o.dc++S.2:=by
  by_cases q:n=0
  ·rw[aN q,aN (cW aA)]
  rw[aM q,aM (λz=>by rw[z]at hsl;simp at hsl;omega)]
 rw[hw,hr,brR hs2];have hsg:(if decide ((yL (yS x).1.1 (yS x).1.2.1 (yS x).1.2.2 (n:Int)).2.1≠[])=true∧x/9223372036854775808=1∧[(⟨aeN n,true,0⟩:SecN)].length=1 then o.minus else [])=if ahC x n=true then o.minus else []:=by
  unfold ahC;by_cases a:x/9223372036854775808=1<;>by_cases b:(yL (yS x).1.1 (yS x).1.2.1 (yS x).1.2.2 (n:Int)).2.1≠[]<;>simp[a,b]
 rw[hsg];rfl
theorem boS(hl:o.fine)(hg:o.grpOk){n:Nat}(hk:yK x<3):
  ∃k gr y,ajE o (acO yP ((if ahC x n=true then o.minus else [])++afI o true (amO (abJ (yL (yS x).1.1 (yS x).1.2.1 (yS x).1.2.2 (n:Int)) n).1 true 1) (abJ (yL (yS x).1.1 (yS x).1.2.1 (yS x).1.2.2 (n:Int)) n).2))=
   (⟨agX (ahC x n) (yL (yS x).1.1 (yS x).1.2.1 (yS x).1.2.2 (n:Int)).2.1 (yL (yS x).1.1 (yS x).1.2.1 (yS x).1.2.2 (n:Int)).2.2,0,k,gr,y⟩,0):=by
 have hfin:=ciD (n:=n) hk;have hok:=aaD (neg:=(yS x).1.1) (k:=(n:Int)) (qP x);have hex:=acW (neg:=(yS x).1.1) (k:=(n:Int)) (qP x);generalize ahC x n=nb;generalize yL (yS x).1.1 (yS x).1.2.1 (yS x).1.2.2 (n:Int)=D at *;obtain⟨neg,ds,e⟩:=D;have hb:=(alO (D:=(nb,ds,e)) (n:=n) (m:=1) aA hok hex).1;have hdg:=biG (D:=(nb,ds,e)) (n:=n) hok 1;have hsl:(abJ (nb,ds,e) n).2.length=n:=(aiA (d:=(nb,ds,e)) hok hex).1;rw[show abJ (neg,ds,e) n=abJ (nb,ds,e) n from rfl];generalize abJ (nb,ds,e) n=S at *;have hw:Digs (amO S.1 true 1):=λc hc=>hdg c (List.mem_append_left _ hc);have hr:Digs S.2:=λc hc=>hdg c (List.mem_append_right _ hc);have hne:amO S.1 true 1≠[]:=by
  unfold amO;rw[aM (show¬(1:Nat)=0 by decide)];intro q;have h1:=List.append_eq_nil_iff.1 q;have h2:S.1=[]:=h1.2;rw[h2]at h1;exact absurd h1.1 aC
 obtain⟨gr,hn⟩:=bnL hl hg true hw hne hr;obtain⟨c,t,hct,hc,hz⟩:=blB (l:=o) true hw hne hr;rw[hct]at hn ⊢;rw[bgR hl nb hc hz hn (by rw[hsl];exact hb)];have hkb:yK (agX nb ds e)≠3:=by
  unfold agX;have hfin2:agA ds e<9218868437227405312:=hfin;have h1:yK (abA nb+agA ds e)=yK (agA ds e):=by
   unfold yK abA;cases nb
   ·simp
   repeat' split
   all_goals omega
  rw[h1];unfold yK
  repeat' split
  all_goals omega
 rw[aM hkb];exact⟨_,_,_,rfl⟩
section
open Go Go.RowKit
set_option maxRecDepth 100000
theorem avW:∀l∈locs,l.grp.length≤3∧l.minus.length≤3∧l.dc.length≤1∧l.grp≠[]:=by decide
theorem bkB{l:Loc}(hl:l.grp.length≤3):∀(f i:Nat)(d s:List UInt8),(akQ l f i d s).length≤d.length+s.length+d.length/2*3
 |0,i,d,s=>by unfold akQ;rw[aO];omega
 |f+1,i,d,s=>by
  have h2:=ahB l i;unfold akQ;split
  ·have ih:=bkB hl f (i+1) (d.take (d.length-abC l i)) (l.grp++d.drop (d.length-abC l i)++s);simp only[aO,aV,bO]at ih;omega
  rw[aO];omega
theorem bqG(hl:l.grp.length≤3)(hd:l.dc.length≤1)(w r:List UInt8):(afI l true w r).length≤w.length+w.length/2*3+1+r.length:=by
 have h:=bkB hl w.length 0 w [];rw[bG,cA]at h;have h2:(aeJ l true w).length≤w.length+w.length/2*3:=h;unfold afI;rw[aO];split
 ·show _+0≤_;omega
 rw[aO];omega
def fmS(n j:Nat):List UInt8:=[35,44,35,35,48]++(if n=0 then []else 46::List.replicate j 48)
theorem cmI(n j:Nat)(h:j<n):fmS n j++[48]=fmS n (j+1):=by
 unfold fmS;rw[aJ,aJ,List.replicate_succ',bK];rfl
theorem ciB(n j:Nat):(fmS n j).length≤6+j:=by
 unfold fmS;split<;>simp<;>omega
def aeU(x n:Nat):Bool×List UInt8×Int:=yL (yS x).1.1 (yS x).1.2.1 (yS x).1.2.2 (n:Int)
theorem awO(hk:yK x<3):zU (yS x).1.2.1 (yS x).1.2.2≤310:=by
 have hpm:=acN x;have hpe:=aaZ x;rw[agN hk];rcases Int.lt_or_le (zP x) 0 with q|q
 ·have:=bbZ (neg:=alN x) hpm q;show zU (ofN (alN x) (yA x) (zP x)).2.1 (ofN (alN x) (yA x) (zP x)).2.2≤310;omega
 exact amR aA ⟨q,hpe.2⟩
theorem beC(hl:l∈locs){n:Nat}(hk:yK x<3)(hn:n<21):((if ahC x n=true then l.minus else [])++afI l true (amO (abJ (aeU x n) n).1 true 1) (abJ (aeU x n) n).2).length≤1000:=by
 obtain⟨h1,h2,h3,_⟩:=avW l hl;have hdr:=qP x;have hrr:=aaD (neg:=(yS x).1.1) (k:=(n:Int)) hdr;have hex:=acW (neg:=(yS x).1.1) (k:=(n:Int)) hdr;have hpt:=agI (neg:=(yS x).1.1) (k:=(n:Int)) hdr aA;have hpx:=awO hk;have hsl:=(aiA hrr hex).1;have hs1:=ajN (aeU x n).2.1 (zU (aeU x n).2.1 (aeU x n).2.2) n;have hs1:(abJ (aeU x n) n).1.length≤(zU (aeU x n).2.1 (aeU x n).2.2).toNat:=hs1;have hsl:(abJ (aeU x n) n).2.length=n:=hsl;have hpt:zU (aeU x n).2.1 (aeU x n).2.2≤max 1 (zU (yS x).1.2.1 (yS x).1.2.2+1):=hpt;have hb:=(alO (m:=1) aA hrr hex).2.1;have hb:(amO (abJ (aeU x n) n).1 true 1).length=max 1 (abJ (aeU x n) n).1.length:=hb;have hw:=bqG h1 h3 (amO (abJ (aeU x n) n).1 true 1) (abJ (aeU x n) n).2;rw[aO];have hm:(if ahC x n=true then l.minus else []).length≤3:=by split;exact h2;exact Nat.zero_le _
 omega
theorem bwH{n:Nat}(hn:n<21)(hk:yK x<3):(aeU x n).2.1.length≤1000:=by
 have hdr:=qP x;have hrr:=aaD (neg:=(yS x).1.1) (k:=(n:Int)) hdr;have hex:=acW (neg:=(yS x).1.1) (k:=(n:Int)) hdr;have hpt:=agI (neg:=(yS x).1.1) (k:=(n:Int)) hdr aA;have hpx:=awO hk;have hp:=qU hrr;show(yL (yS x).1.1 (yS x).1.2.1 (yS x).1.2.2 (n:Int)).2.1.length≤1000;rcases hex with q|q
 ·rw[q];exact Nat.zero_le _
 omega
theorem bgA{s:List UInt8}{e:Int}(h:(mkN neg s e).1.2.1≠[]):(mkN neg s e).1.1=neg:=by
 unfold mkN at h ⊢;split
 ·rfl
 rename_i q
 rw[aM q]at h;split
 ·rfl
 rename_i r
 rw[aM r]at h;exact absurd rfl h
theorem bzC{n:Nat}(hk:yK x<3)(h:(aeU x n).2.1≠[]):(aeU x n).1=alN x:=by
 have hd:(yS x).1.2.1≠[]→(yS x).1.1=alN x:=λq=>by
  rw[agN hk]at q ⊢;unfold ofN at q ⊢;split
  ·rename_i r;rw[aN r]at q;exact bgA q
  rename_i r;rw[aM r]at q;exact bgA q
 unfold aeU yL adF at h ⊢;split
 ·rename_i q
  rw[aN q]at h;unfold bcY at h ⊢;rw[bgA h];exact hd q.1
 rename_i q
 rw[aM q]at h;exact hd h
theorem cfX{n:Nat}(h:(aeU x n).2.1=[]):ahC x n=false:=by
 unfold ahC;have:(yL (yS x).1.1 (yS x).1.2.1 (yS x).1.2.2 (n:Int)).2.1=[]:=h;rw[aS (p:=(yL (yS x).1.1 (yS x).1.2.1 (yS x).1.2.2 (n:Int)).2.1≠[]) (λq=>q this),Bool.and_false]
theorem byG{n:Nat}(hk:yK x<3)(hx:x<18446744073709551616)(h:(aeU x n).2.1≠[]):(aeU x n).1=ahC x n:=by
 rw[bzC hk h];unfold ahC;have:(yL (yS x).1.1 (yS x).1.2.1 (yS x).1.2.2 (n:Int)).2.1≠[]:=h;rw[aU this,Bool.and_true];unfold alN;exact aQ.2 aA
def clF(x n:Nat)(c2:Int)(H:Heap):Nat→Env→Heap→Prop:=λk env H1=>∃j:Nat,j≤n∧env=[(1,.int .u64 (x:Int)),(2,.int .i64 c2),(8,.int .i64 (n:Int)),(9,.str (fmS n j)),(10,.int .i64 (j:Int))]∧H=H1∧k=n-j
theorem bhN(c0:Int)(hc0: -9223372036854775808≤c0∧c0≤9223372036854775807)(x:Nat)(hx:x<18446744073709551616)(c2:Int)(hc2: -9223372036854775808≤c2∧c2≤9223372036854775807)(H:Heap):ACall prog 8 [.int .i64 c0,.int .u64 (x:Int),.int .i64 c2] H (λy H'=>y= .bool true∧H'=H):=by
 refine ACall.of_body func8 rfl ntmps8 results8 rfl ?_;iterate 7 refine AX ?_
 refine .cl rfl call9 .nil (awF _) ?_;iterate 4 refine AX ?_
 refine AWP.seqTo 29 (.bool (decide ((3:Int)≤(yK x:Int)))) [0,1,2,6,7] ?_ ?_
 ·iterate 5 refine AX ?_
  refine .gs rfl rfl rfl aD (zB C17 (evs1 rfl) (aiB x hx _)) ?_;rintro _ _ ⟨rfl,hH⟩;obtain rfl:=hH.symm;iterate 3 refine AX ?_
  exact⟨rfl,zS rfl aD sX,rfl⟩
 refine AWP.sub [(29,_),(0,_),(1,_),(2,_),(6,_),(7,_)] sX ?_;refine AWP.cx rfl (λhc29=>?_) (λhc29=>?_)
 ·iterate 9 refine AX ?_
  exact⟨rfl,rfl⟩
 have hk:yK x<3:=by omega
 iterate 5 refine AX ?_
 refine .s rfl (zB C19 (.cons (tm rfl) (.cons zJ .nil)) (ajV 21 aC c0 hc0 _)) ?_;rintro _ _ ⟨⟨n,hn,rfl⟩,hH⟩;obtain rfl:=hH.symm;iterate 8 refine AX ?_
 refine AWP.meet (λenv H2=>env=[(1,.int .u64 (x:Int)),(2,.int .i64 c2),(8,.int .i64 (n:Int)),(9,.str (fmS n 0))]∧H2=H) ?_ ?_
 ·iterate 6 refine AX ?_
  refine AWP.cx rfl (λhc34=>?_) (λhc34=>?_)
  ·iterate 2 refine AX ?_
   refine .p rfl (zY (tm rfl) (zO rfl) aC) ?_;iterate 3 refine AX ?_
   refine Meets.mk (M:=λenv H2=>env=[(1,.int .u64 (x:Int)),(2,.int .i64 c2),(8,.int .i64 (n:Int)),(9,.str (fmS n 0))]∧H2=H) ⟨rfl,rfl⟩ (zK rfl (zK rfl (zK rfl (zR rfl (by unfold fmS;rw[aJ];rfl) yF)))) (hRa _)
  iterate 2 refine AX ?_
  refine Meets.mk (M:=λenv H2=>env=[(1,.int .u64 (x:Int)),(2,.int .i64 c2),(8,.int .i64 (n:Int)),(9,.str (fmS n 0))]∧H2=H) ⟨rfl,rfl⟩ (zK rfl (zK rfl (zK rfl (zR rfl (by unfold fmS;rw[aK];rfl) yF)))) (hRa _)
 rintro _ _ ⟨rfl,rfl⟩;iterate 7 refine AX ?_
 refine AWP.loopW (clF x n c2 _) (n) ⟨0,Nat.zero_le _,rfl,rfl,rfl⟩ sX (hRa _) ?_;rintro _ _ _ ⟨j,hj,rfl,rfl,hkk⟩;iterate 8 refine AX ?_
 refine AWP.cx rfl (λhc39=>?_) (λhc39=>?_)
 ·iterate 6 refine AX ?_
  refine .p rfl (zY (tm rfl) (zO rfl) (by rw[zQ];have:=ciB n j;simp only[aW,bG];omega)) ?_;iterate 10 refine AX ?_
  refine Round.mk (J:=clF x n c2 _) ⟨j+1,by omega,rfl,rfl,rfl⟩ (zK rfl (zK rfl (zK rfl (zR rfl (by rw[cmI n j aA]) (zK rfl yF))))) (hRa _) aA
 iterate 6 refine AX ?_
 obtain rfl:n=j:=by omega
 iterate 2 refine AX ?_
 refine .s rfl (zB call11 (evs1 rfl) (bgK c2 hc2 _)) ?_;rintro _ _ ⟨⟨l,hlm,rfl⟩,hH⟩;obtain rfl:=hH.symm;have hko:=asF l hlm;have hs2:=axI l hlm;obtain⟨_,_,_,hgne⟩:=avW l hlm;have hfe:=factsE hn;have hpn:akW (fmS n n)=some [⟨aeN n,true,0⟩]:=hfe.parse;have hsm:∀q,q∈[(⟨aeN n,true,0⟩:SecN)]→q.items.length≤1000:=λq hq=>by rw[eU.1 hq];show(aeN n).length≤1000;rw[bjW];split<;>omega
 have hnum:abW l [⟨aeN n,true,0⟩] x=(((if ahC x n=true then l.minus else [])++afI l true (amO (abJ (aeU x n) n).1 true 1) (abJ (aeU x n) n).2),0):=ayF hko hs2 hn hfe hk;have hn1:=congrArg Prod.fst hnum;have hn2:=congrArg Prod.snd hnum;have hn1:(abW l [⟨aeN n,true,0⟩] x).1=((if ahC x n=true then l.minus else [])++afI l true (amO (abJ (aeU x n) n).1 true 1) (abJ (aeU x n) n).2):=hn1;have hn2:(abW l [⟨aeN n,true,0⟩] x).2=0:=hn2;have hsh:=beC hlm hk hn;obtain⟨k,gr,y,hent⟩:=boS (n:=n) (buN l hlm) (bnW l hlm) hk;have hent:ajE l (acO yP ((if ahC x n=true then l.minus else [])++afI l true (amO (abJ (aeU x n) n).1 true 1) (abJ (aeU x n) n).2))=((⟨agX (ahC x n) (aeU x n).2.1 (aeU x n).2.2,0,k,gr,y⟩:EntN),0):=hent;generalize((if ahC x n=true then l.minus else [])++afI l true (amO (abJ (aeU x n) n).1 true 1) (abJ (aeU x n) n).2)=s at *;have hdr:=qP x;have hrr:yE (aeU x n).2.1 (aeU x n).2.2=true:=aaD hdr;have hbits:=bsJ (neg:=ahC x n) hrr;have hdl:=bwH hn hk;have hrnd:(adF (yS x).1.1 (yS x).1.2.1 (yS x).1.2.2 (n:Int)).1=aeU x n:=rfl;iterate 3 refine AX ?_
 refine .al zr32 (λb11 hb11=>?_);refine .al zr34 (λb12 hb12=>?_);have hn11_12:=Heap.ne_of (oS _ _ _) hb12;iterate 4 refine AX ?_
 refine AWP.frz (t:=12) rfl (fS hb12 _) ?_;refine AWP.frz (t:=11) rfl (hb11) ?_;iterate 3 refine AX ?_
 refine .cl rfl call23 (evs1 rfl) (ajG (fmS n n) _ hpn _) ?_;iterate 4 refine AX ?_
 refine .al zr24 (λb13 hb13=>?_);iterate 5 refine AX ?_
 refine AWP.frz (t:=13) rfl (hb13) ?_;iterate 5 refine AX ?_
 refine .cl rfl call12 (evs3 rfl rfl rfl) (ajH [⟨aeN n,true,0⟩] _ hsm x hx l hko hs2 _) ?_;rw[hn1,hn2];iterate 10 refine AX ?_
 refine .s rfl (zB call24 (evs1 rfl) (boT l _)) ?_;rintro _ _ ⟨b,hb0,rfl,rfl⟩;refine AX ?_;refine .s rfl (zB call25 (evs2 rfl rfl) (bhR l hko hgne bkG bvP s hsh b _ (oS _ _ _))) ?_;rintro _ _ ⟨rfl,f1,hf1,rfl⟩;rw[sS,hent];iterate 3 refine AX ?_
 refine .al zr69 (λb18 hb18=>?_);iterate 4 refine AX ?_
 refine AWP.frz (t:=18) rfl (hb18) ?_;iterate 4 refine AX ?_
 refine .cl rfl call21 (.cons (tm rfl) (.cons (tm rfl) (.cons zJ .nil))) (amA x hx hk n aA _) ?_;iterate 3 refine AX ?_
 refine .al zr61 (λb20 hb20=>?_);iterate 6 refine AX ?_
 rw[hrnd];refine AX ?_;refine .p rfl (zC U61 rfl Z9 (tm rfl)) ?_;iterate 5 refine AX ?_
 refine AWP.cx rfl (λhc78=>?_) (λhc78=>?_)
 ·have hz:(aeU x n).2.1=[]:=cW aA;have hsg:=cfX hz;rw[hsg]at hbits ⊢;have k95:decide (((agX false (aeU x n).2.1 (aeU x n).2.2:Nat):Int)=((bmJ false (aeU x n).2.1 (aeU x n).2.2:Nat):Int))=true:=aU (by rw[hbits]);refine AX ?_;refine .p rfl (zC U61 rfl Z4 (tm rfl)) ?_;iterate 4 refine AX ?_
  refine AWP.frz (t:=20) rfl hb20 ?_;refine AWP.draw [(0,true),(1,true),(2,true),(3,true),(4,true),(5,true),(6,true),(7,true),(8,true),(9,true),(10,true),(11,true),(12,true),(13,true),(14,true),(15,true),(16,true),(17,true)] rfl aE ?_;iterate 11 refine AX ?_
  refine .gp rfl rfl rfl rfl aD (zA U69 rfl Z25 (tm rfl)) ?_;iterate 2 refine AX ?_
  refine APlan.gf rfl rfl rfl rfl aD (λ_=>zB call26 (evs1 rfl) (aoY _ (aeU x n).2.1 (aeU x n).2.2 hrr hdl _)) ?_;iterate 6 refine AX ?_
  refine Ret.go (.cons (.tmp _ _ rfl) .nil) _ (Heap.le_set hb0 _) ?_;exact⟨congrArg AV.bool k95,rfl⟩
 have hz:(aeU x n).2.1≠[]:=λq=>by rw[q]at hc78;exact hc78 rfl
 have hsg:=byG hk hx hz;rw[hsg];have k95:decide (((agX (ahC x n) (aeU x n).2.1 (aeU x n).2.2:Nat):Int)=((bmJ (ahC x n) (aeU x n).2.1 (aeU x n).2.2:Nat):Int))=true:=aU (by rw[hbits]);iterate 3 refine AX ?_
 refine AWP.frz (t:=20) rfl hb20 ?_;refine AWP.draw [(0,true),(1,true),(2,true),(3,true),(4,true),(5,true),(6,true),(7,true),(8,true),(9,true),(10,true),(11,true),(12,true),(13,true),(14,true),(15,true),(16,true),(17,true)] rfl aE ?_;iterate 11 refine AX ?_
 refine .gp rfl rfl rfl rfl aD (zA U69 rfl Z25 (tm rfl)) ?_;iterate 2 refine AX ?_
 refine APlan.gf rfl rfl rfl rfl aD (λ_=>zB call26 (evs1 rfl) (aoY _ (aeU x n).2.1 (aeU x n).2.2 hrr hdl _)) ?_;iterate 6 refine AX ?_
 refine Ret.go (.cons (.tmp _ _ rfl) .nil) _ (Heap.le_set hb0 _) ?_;exact⟨congrArg AV.bool k95,rfl⟩
end
end Go.Proofs.YteedncdcbgplfaaGreatDoor
