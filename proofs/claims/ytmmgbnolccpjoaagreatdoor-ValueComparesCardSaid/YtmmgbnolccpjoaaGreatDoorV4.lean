import Derived.Test.YtmmgbnolccpjoaaGreatDoorU3
import Derived.Test.YtmmgbnolccpjoaaGreatDoorV3
set_option maxHeartbeats 1000000
namespace Go.Proofs.YtmmgbnolccpjoaaGreatDoor
open Go.Proofs.Tryz
open Go Go.RowKit
variable{l:Loc}{r:List AV}{i:Nat}
structure Val where
 kind:Int
 bits:Nat
 is:Bool
 text:List UInt8
 fail:Int
variable{v:Val}
instance:DecidableEq Val:=λx y=>
 if h:x.kind=y.kind∧x.bits=y.bits∧x.is=y.is∧x.text=y.text∧x.fail=y.fail then .isTrue (by cases x;cases y;simp_all)else .isFalse (by rintro rfl;exact h ⟨rfl,rfl,rfl,rfl,rfl⟩)
def Val.cs(v:Val):List AV:=[.int .i64 v.kind,.int .u64 (v.bits:Int),.bool v.is,.str v.text,.int .i64 v.fail]
def Val.av(v:Val):AV:=.agg v.cs
def yT(n:Int):Val:=⟨4,0,false,[],n⟩
def adH(b:Bool):Val:=⟨2,0,b,[],0⟩
def ajW(x:Nat):Val:=if 3≤zK x then yT 6 else⟨1,x,false,[],0⟩
def aqB(s:List UInt8):Val:=if 1000<s.length then yT 3 else⟨3,0,false,s,0⟩
def aiT(k:Int):Val:=⟨k,0,false,[],0⟩
def aoP(n:Int):List UInt8:=if n=1 then [35,78,85,76,76,33]else if n=2 then [35,68,73,86,47,48,33]else if n=3 then [35,86,65,76,85,69,33]else if n=4 then [35,82,69,70,33]else if n=5 then [35,78,65,77,69,63]else if n=6 then [35,78,85,77,33]else if n=7 then [35,78,47,65]else if n=8 then [35,67,89,67,76,69,33]else []
def acN(v:Val):Bool:=
 if v.kind=0 then decide (v=⟨0,0,false,[],0⟩)else if v.kind=1 then decide (v=ajW v.bits)else if v.kind=2 then decide (v=adH v.is)else if v.kind=3 then decide (v=aqB v.text)
 else if v.kind=4 then decide (v=yT v.fail)&&decide (aoP v.fail≠[])else false
def azF(b:Bool):List UInt8:=if b then [84,82,85,69]else [70,65,76,83,69]
def boP(c:UInt8):UInt8:=if 97≤c.toNat∧c.toNat≤122 then UInt8.ofNat (c.toNat-32)else c
def bcO(s:List UInt8):List UInt8:=s.map boP
def sgn(x y:Int):Int:=if x<y then-1 else if y<x then 1 else 0
def aoO(k:Int):Int:=if k=1 then 1 else if k=3 then 2 else if k=2 then 3 else 0
def aaZ(l:Loc)(v:Val):Nat×Int:=
 if v.kind=1 then(v.bits,0)else if v.kind=2∧v.is=true then(cgI,0)
 else if v.kind=3 then(if(acB l (aaQ zQ v.text)).2≠0 then(0,3)else((acB l (aaQ zQ v.text)).1.bits,0))else(0,v.fail)
def agK(v:Val):Bool×Int:=
 if v.kind=1 then(decide (alX v.bits≠0),0)else if v.kind=3 then(if bcO v.text=azF true then(true,0)else if bcO v.text=azF false then(false,0)else(false,3))else(v.is,v.fail)
def adN(l:Loc)(v:Val):List UInt8×Int:=if v.kind=1 then(bsB l (asV v.bits 15),0)else if v.kind=2 then(azF v.is,0)else(v.text,v.fail)
def ajK(a b:Val):Int:=if a.kind=1 then bbP a.bits b.bits else if a.kind=2 then Lib.compareBytes (azF a.is) (azF b.is)else Lib.compareBytes (bcO a.text) (bcO b.text)
def aaG(a b:Val):Int:=
 if a.kind=4∨b.kind=4 then 0 else
 let x:=if a.kind=0 then aiT b.kind else a
 let y:=if a.kind=0 then b else if b.kind=0 then aiT a.kind else b
 if x.kind≠y.kind then sgn (aoO x.kind) (aoO y.kind)else ajK x y
def cnW:Nat:=zV false 100 0 false
def brX:Nat:=apR cgI (zV false 2 0 false)
def acV(l:Loc)(op:List UInt8)(a:Val):Val:=
 if a.kind=4∨op=[43]then a else if op≠[45]∧op≠[37]then yT 5
 else if(aaZ l a).2≠0 then yT (aaZ l a).2
 else if op=[37]then ajW (apR (aaZ l a).1 cnW)else ajW (ajS (aaZ l a).1)
def ckR(x y:Nat):Val:=if alX y=0 then yT 2 else ajW (apR x y)
def bqY(x y:Nat):Val:=
 if alX x=0∧alX y=0 then yT 6 else if alX x=0∧alX y<0 then yT 2
 else if(toN y).2=0∧isN y=true∧ -1000000≤(toN y).1∧(toN y).1≤1000000 then ajW (bfQ x (toN y).1)
 else if y=brX then ajW (aoG x)else yT 6
def awQ(l:Loc)(a b:Val)(f:Nat→Nat→Val):Val:=
 if(aaZ l a).2≠0 then yT (aaZ l a).2 else if(aaZ l b).2≠0 then yT (aaZ l b).2 else f (aaZ l a).1 (aaZ l b).1
def yR(l:Loc)(op:List UInt8)(a b:Val):Val:=
 if a.kind=4 then a else if b.kind=4 then b
 else if op=[61]then adH (decide (aaG a b=0))else if op=[60,62]then adH (decide (aaG a b≠0))
 else if op=[60]then adH (decide (aaG a b<0))else if op=[60,61]then adH (decide (aaG a b≤0))
 else if op=[62]then adH (decide (0<aaG a b))else if op=[62,61]then adH (decide (0≤aaG a b))
 else if op=[38]then aqB ((adN l a).1++(adN l b).1)
 else if op=[43]then awQ l a b λx y=>ajW (ajI x y)
 else if op=[45]then awQ l a b λx y=>ajW (ajI x (ajS y))
 else if op=[42]then awQ l a b λx y=>ajW (afD x y)
 else if op=[47]then awQ l a b ckR else if op=[94]then awQ l a b bqY else yT 5
theorem agN(h:acN v=true):v=aiT 0∨(zK v.bits<3∧v=⟨1,v.bits,false,[],0⟩)∨v=adH v.is∨(v.text.length≤1000∧v=⟨3,0,false,v.text,0⟩)∨(aoP v.fail≠[]∧v=yT v.fail):=by
 unfold acN at h;split at h
 ·exact .inl (of_decide_eq_true h)
 split at h
 ·rename_i hk
  have h:=of_decide_eq_true h;by_cases q:3≤zK v.bits
  ·rw[ajW,aN q]at h;rw[h]at hk;exact absurd hk aC
  exact .inr (.inl ⟨by omega,by rw[ajW,aL q]at h;exact h⟩)
 split at h
 ·exact .inr (.inr (.inl (of_decide_eq_true h)))
 split at h
 ·rename_i hk
  have h:=of_decide_eq_true h;by_cases q:1000<v.text.length
  ·rw[aqB,aN q]at h;rw[h]at hk;exact absurd hk aC
  exact .inr (.inr (.inr (.inl ⟨by omega,by rw[aqB,aL q]at h;exact h⟩)))
 split at h
 ·simp only[bL,aO]at h;exact .inr (.inr (.inr (.inr ⟨h.2,h.1⟩)))
 cases h
theorem aiG(h:acN v=true):v.text.length≤1000:=by
 rcases agN h with h|⟨_,h⟩|h|⟨h,_⟩|⟨_,h⟩
 ·rw[h];exact Nat.zero_le _
 ·rw[h];exact Nat.zero_le _
 ·rw[h];exact Nat.zero_le _
 ·exact h
 rw[h];exact Nat.zero_le _
theorem aeA(hv:v.bits<18446744073709551616):(aaZ l v).1<18446744073709551616:=by
 unfold aaZ;split
 ·exact hv
 split
 ·decide
 split
 ·split
  ·show(0:Nat)<18446744073709551616;decide
  rename_i q
  exact((bsM l (aaQ zQ v.text)).2 (dY.1 q)).2.1
 show(0:Nat)<18446744073709551616;decide
section
open Go Go.RowKit
set_option maxRecDepth 100000
theorem zr24:ZR 24 [.int .i64 0,.int .u64 0,.bool false,.str [],.int .i64 0]:=ZRi zeroValue24
theorem pl24:PL 24 [(0,1),(1,1),(2,1),(3,1),(4,1)]:=PLi U24
def Val.vals(r:Val):List Value:=[.int .i64 r.kind,.int .u64 (r.bits:Int),.bool r.is,.string ⟨r.text.toArray⟩,.int .i64 r.fail]
theorem bzQ{a b:List UInt8}:((⟨a.toArray⟩:ByteArray)=⟨b.toArray⟩)↔a=b:=by
 constructor
 ·intro h;have:=congrArg (λx:ByteArray=>x.data.toList) h;simpa using this
 rintro rfl;rfl
theorem eqInV(d:Nat)(r s:Val)(w:World):(Op.equalIn (d+2) 24 (.agg r.vals.toArray) (.agg s.vals.toArray)).run prog w= .ok (decide (r=s)) w:=by
 have u3:=U3;have a3:=G3;have z3:=Z3;have u4:=U4;have a4:=G4;have z4:=Z4;have u22:=U22;have a22:=G22;have z22:=Z22;have u9:=U9;have a9:=G9;have z9:=Z9;have hS:prog.underlying 24=some (.struct (prog.fieldsOf 24)):=by kernel_rfl
 have hp:prog.stoodInHeld 24=false:=by kernel_rfl
 rw[run_equalIn_agg w (d+1) 24 _ _ hS hp];simp only[Program.fieldsOf,U24,Val.vals]
 go_simp
 obtain⟨a,b,c,e,f⟩:=r;obtain⟨a',b',c',e',f'⟩:=s;have hb:=@bzQ e e';by_cases h1:a=a'<;>by_cases h2:b=b'<;>by_cases h3:c=c'<;>by_cases h4:e=e'<;>by_cases h5:f=f'<;>simp[h1,h2,h3,h4,h5,Int.ofNat_inj]
theorem eqVal(r s:Val):avV prog 24 r.cs s.cs (decide (r=s)):=λg xs ys w h k=>by
 rw[h.plain r.vals rfl,k.plain s.vals rfl];exact eqInV 9998 r s w
theorem aaH(n:Int):Fn 53 [.int .i64 n] ((yT n).av):=by
 intro H;refine .of_body func53 rfl ntmps53 results53 rfl ?_;iterate 2 refine AX ?_
 refine .al zr24 (λb2 hb2=>?_);iterate 5 refine AX ?_
 refine .p rfl (zX zr24 pl24 (.cons zH (.inl rfl) (.cons (tm rfl) (.inl rfl) .nil)) rfl) ?_;iterate 3 refine AX ?_
 refine .frz (t:=2) rfl (hb2) ?_;iterate 2 refine AX ?_
 exact⟨rfl,rfl⟩
theorem aeM(b:Bool):Fn 61 [.bool b] ((adH b).av):=by
 intro H;refine .of_body func61 rfl ntmps61 results61 rfl ?_;iterate 2 refine AX ?_
 refine .al zr24 (λb2 hb2=>?_);iterate 5 refine AX ?_
 refine .p rfl (zX zr24 pl24 (.cons zH (.inl rfl) (.cons (tm rfl) (.inl rfl) .nil)) rfl) ?_;iterate 3 refine AX ?_
 refine .frz (t:=2) rfl (hb2) ?_;iterate 2 refine AX ?_
 exact⟨rfl,rfl⟩
theorem qO(x:Nat)(hx:x<18446744073709551616):Fn 35 [.int .u64 (x:Int)] ((ajW x).av):=by
 intro H;refine .of_body func35 rfl ntmps35 results35 rfl ?_;iterate 2 refine AX ?_
 refine .al zr24 (λb2 hb2=>?_);iterate 6 refine AX ?_
 refine .cl rfl C89 (evs1 rfl) (aaA _ aB _) ?_;iterate 3 refine AX ?_
 refine .cx rfl (λhc5=>?_) (λhc5=>?_)
 ·iterate 2 refine AX ?_
  refine .cl rfl C53 (.cons zH .nil) (aaH _ _) ?_;iterate 3 refine AX ?_
  refine .frz (t:=2) rfl (hb2) ?_;iterate 3 refine AX ?_
  refine⟨?_,rfl⟩;rw[show ajW x=yT 6 from aJ];rfl
 iterate 5 refine AX ?_
 refine .p rfl (zX zr24 pl24 (.cons zH (.inl rfl) (.cons (tm rfl) (.inl rfl) .nil)) rfl) ?_;iterate 3 refine AX ?_
 refine .frz (t:=2) rfl (hb2) ?_;iterate 2 refine AX ?_
 refine⟨?_,rfl⟩;rw[show ajW x=⟨1,x,false,[],0⟩from aI];rfl
theorem bhJ(s:List UInt8)(hs:s.length≤maxLen):Fn 62 [.str s] ((aqB s).av):=by
 intro H;refine .of_body func62 rfl ntmps62 results62 rfl ?_;iterate 2 refine AX ?_
 refine .al zr24 (λb2 hb2=>?_);iterate 10 refine AX ?_
 refine .cx rfl (λhc5=>?_) (λhc5=>?_)
 ·iterate 2 refine AX ?_
  refine .cl rfl C53 (.cons zH .nil) (aaH _ _) ?_;iterate 3 refine AX ?_
  refine .frz (t:=2) rfl (hb2) ?_;iterate 3 refine AX ?_
  refine⟨?_,rfl⟩;rw[show aqB s=yT 3 from aJ];rfl
 iterate 5 refine AX ?_
 refine .p rfl (zX zr24 pl24 (.cons zH (.inl rfl) (.cons (tm rfl) (.inl rfl) .nil)) rfl) ?_;iterate 3 refine AX ?_
 refine .frz (t:=2) rfl (hb2) ?_;iterate 2 refine AX ?_
 refine⟨?_,rfl⟩;rw[show aqB s=⟨3,0,false,s,0⟩from aI];rfl
theorem up32{c:Nat}(h1:97≤c)(h2:c≤122):c-(c&&&32)=c-32:=by
 have:∀c:Fin 128,97≤c.1→c.1≤122→c.1-(c.1&&&32)=c.1-32:=by decide
 exact this ⟨c,by omega⟩ h1 h2
theorem bqO{A B ys:List AV}{x:AV}{y:AV}{o:Nat}(ho:o=A.length)(hy:ys=[y]):putRow (A++x::B) o ys=A++y::B:=by
 subst ho;subst hy;simp[putRow]
def agT(s:List UInt8)(r:List AV)(i:Nat):List AV:=((s.take i).map boP).map bv++(s.drop i).map bv++r
theorem avK{s:List UInt8}(h:i<s.length):agT s r i=((s.take i).map boP).map bv++bv s[i]::((s.drop (i+1)).map bv++r):=by
 unfold agT;rw[cD h,fA,aQ,cR]
theorem avJ{s:List UInt8}(h:i<s.length):agT s r (i+1)=((s.take i).map boP).map bv++bv (boP s[i])::((s.drop (i+1)).map bv++r):=by
 unfold agT;rw[←cV h,fU,fU];simp only[fA,List.map_nil,aQ,cR,cJ]
theorem bsZ{s:List UInt8}(h:i<s.length):(agT s r i)[0+((i:Nat):Int).toNat*1]?=some (.int .u8 ((s[i].toNat:Nat):Int)):=by
 rw[show 0+((i:Nat):Int).toNat*1=i by omega,avK h,fE aG];simp;rw[show i-min i s.length=0 by omega];rfl
theorem bsY{s:List UInt8}:(agT s r i).length=s.length+r.length:=by simp[agT];omega
theorem bsX{s:List UInt8}(h:i<s.length){m:Int}(hm:m=((boP s[i]).toNat:Nat)):putRow (agT s r i) (0+((i:Nat):Int).toNat*1) [.int .u8 m]=agT s r (i+1):=by
 rw[show 0+((i:Nat):Int).toNat*1=i by omega,avK h,avJ h];exact bqO aG (by rw[hm];rfl)
theorem bkM{s:List UInt8}(h:i<s.length)(hu:boP s[i]=s[i]):agT s r (i+1)=agT s r i:=by
 rw[avK h,avJ h,hu]
theorem boO(s:List UInt8):(bcO s).length=s.length:=eS _
theorem btA{s:List UInt8}(h:i=s.length):((agT s r i).drop 0).take s.length=(bcO s).map bv:=by
 subst h;simp[agT,bcO]
theorem ckY{c:UInt8}(h1:97≤c.toNat)(h2:c.toNat≤122):((c.toNat-(c.toNat&&&32):Nat):Int)=((boP c).toNat:Nat):=by
 rw[up32 h1 h2,boP,aN ⟨h1,h2⟩,fN];have:(c.toNat-32)%2^8=c.toNat-32:=bE aA;rw[this]
theorem bgL{c:UInt8}(h:¬(97≤c.toNat∧c.toNat≤122)):boP c=c:=aL h
def bhK(s:List UInt8)(b:Nat)(c:Nat)(H:Heap):Nat→Env→Heap→Prop:=λk env H1=>∃i:Nat,i≤s.length∧env=[(3,.mslice (some ⟨b,0,none⟩) s.length c),(8,.mslice (some ⟨b,0,none⟩) s.length c),(9,.int .i64 s.length),(10,.int .i64 i)]∧H1=H.set b (.box 5 (agT s (List.replicate (c-s.length) (.int .u8 0)) i))∧k=s.length-i
theorem alZ(s:List UInt8)(hs:s.length≤1000000)(H:Heap):ACall prog 41 [.str s] H (λz H'=>z= .str (bcO s)∧H'=H):=by
 refine ACall.of_body func41 rfl ntmps41 results41 rfl ?_;iterate 8 refine AX ?_
 refine .s rfl (axE U9 U142 U5 (tm rfl) aA) ?_;rintro _ _ ⟨b7,c7,rfl,hcl7,hcm7,hb7,hH⟩;obtain rfl:=hH.symm;iterate 12 refine AX ?_
 refine AWP.loopW (bhK s b7 c7 H) (s.length) ⟨0,Nat.zero_le _,rfl,by simp[agT],rfl⟩ sX (hRa _) ?_;rintro _ _ _ ⟨i,hi0,rfl,rfl,rfl⟩;iterate 6 refine AX ?_
 refine AWP.cx rfl (λhc11=>?_) (λhc11=>?_)
 ·have hi:i<s.length:=by omega
  have hu8:s[i].toNat<256:=s[i].toNat_lt;iterate 7 refine AX ?_
  refine .p rfl (ajC U142 Z5 (tm rfl) (tm rfl) aA aA) (.e rfl (yC G5 (tm rfl) (oS _ _ _) (bsZ hi)) ?_);iterate 4 refine AX ?_
  refine AWP.seqTo 20 (.bool (decide ((97:Int)≤(s[i].toNat:Int))&&decide ((s[i].toNat:Int)≤122))) [3,8,9,10,4,5] ?_ ?_
  ·iterate 4 refine AM ?_
   refine zC (t:=17) rfl (λhg17=>?_) (λhg17=>?_)
   ·have hh17:=hg17;try simp only[aO]at hh17
    iterate 4 refine AM ?_
    exact⟨rfl,zL rfl (by(simp;omega)) sX,rfl⟩
   have hh17:=hg17;try simp only[aM,dO]at hh17
   iterate 4 refine AX ?_
   exact⟨rfl,zL rfl (by(simp;omega)) sX,rfl⟩
  refine AWP.sub [(20,_),(3,_),(8,_),(9,_),(10,_),(4,_),(5,_)] sX ?_;refine AWP.cx rfl (λhc20=>?_) (λhc20=>?_)
  ·simp only[bL,aO]at hc20;iterate 4 refine AX ?_
   refine .p rfl (beO (tm rfl) (zR 32) aB aA) (.p rfl (ajC U142 Z5 (tm rfl) (tm rfl) aA aA) (.e0 (zN Z5 (tm rfl) (tm rfl) rfl rfl (.inl rfl) (oS _ _ _) (by rw[bsY];omega)) ?_));rw[sS];rw[show AV.cells (AV.int .u8 _)=[_]from rfl,bsX hi (ckY aA aA)];iterate 8 refine AX ?_
   refine Round.mk (J:=bhK s b7 c7 H) ⟨i+1,by omega,rfl,rfl,rfl⟩ sX (hRa _) aA
  iterate 8 refine AX ?_
  refine Round.mk (J:=bhK s b7 c7 H) ⟨i+1,by omega,rfl,by rw[bkM hi (bgL (by simp only[bX,aM]at hc20;omega))],rfl⟩ sX (hRa _) aA
 iterate 8 refine AX ?_
 refine .e rfl (bdB (l:=bcO s) U142 U9 U5 (tm rfl) (oS _ _ _) (boO s) (btA aA) (by simp only[zJ];omega)) ?_;iterate 4 refine AX ?_
 refine Ret.go (.cons (.tmp _ _ rfl) .nil) H (Heap.le_set hb7 _) ?_;exact⟨rfl,rfl⟩
theorem auT(x:Int):Fn 112 [.int .i64 x] (.bool false):=by
 intro H;refine .of_body func112 rfl ntmps112 results112 rfl ?_;iterate 15 refine AX ?_
 refine⟨?_,rfl⟩;simp[yD]
theorem akP(x y:Int)(H:Heap):ACall prog 46 [.int .i64 x,.int .i64 y] H (λz H'=>z= .int .i64 (sgn x y)∧H'=H):=by
 refine .of_body func46 rfl ntmps46 results46 rfl ?_;iterate 8 refine AX ?_
 refine .cl rfl call112 (evs1 rfl) (auT _ _) ?_;iterate 6 refine AX ?_
 refine .cl rfl call112 (evs1 rfl) (auT _ _) ?_;iterate 9 refine AX ?_
 refine .cond_false (tm rfl) aD ?_;iterate 8 refine AX ?_
 refine .cond_false (tm rfl) aD ?_;iterate 10 refine AX ?_
 refine .cx rfl (λhc16=>?_) (λhc16=>?_)
 ·iterate 8 refine AX ?_
  refine⟨?_,rfl⟩;simp only[yD,sgn];rw[aJ]
  done
 iterate 10 refine AX ?_
 refine .cx rfl (λhc19=>?_) (λhc19=>?_)
 ·iterate 8 refine AX ?_
  refine⟨?_,rfl⟩;simp only[yD,sgn];rw[aI,aJ]
  done
 iterate 9 refine AX ?_
 refine⟨?_,rfl⟩;simp only[yD,sgn];rw[aI,aI]
 done
theorem aeR(k:Int)(H:Heap):ACall prog 47 [.int .i64 k] H (λz H'=>z= .int .i64 (aoO k)∧H'=H):=by
 refine .of_body func47 rfl ntmps47 results47 rfl ?_;iterate 18 refine AX ?_
 refine .cx rfl (λhc4=>?_) (λhc4=>?_)
 ·iterate 9 refine AX ?_
  refine⟨?_,rfl⟩
  simp_all[yD,aoO]
 iterate 6 refine AX ?_
 refine .cx rfl (λhc6=>?_) (λhc6=>?_)
 ·iterate 9 refine AX ?_
  refine⟨?_,rfl⟩
  simp_all[yD,aoO]
 iterate 6 refine AX ?_
 refine .cx rfl (λhc8=>?_) (λhc8=>?_)
 ·iterate 9 refine AX ?_
  refine⟨?_,rfl⟩
  simp_all[yD,aoO]
 iterate 10 refine AX ?_
 refine⟨?_,rfl⟩
 simp_all[yD,aoO]
theorem aoR(b:Bool)(H:Heap):ACall prog 44 [.bool b] H (λz H'=>z= .str (azF b)∧H'=H):=by
 refine .of_body func44 rfl ntmps44 results44 rfl ?_;iterate 11 refine AX ?_
 refine .cx rfl (λhc3=>?_) (λhc3=>?_)
 ·iterate 8 refine AX ?_
  refine⟨?_,rfl⟩
  simp_all[yD,azF]
 iterate 9 refine AX ?_
 refine⟨?_,rfl⟩
 simp_all[yD,azF]
theorem bbT(a b:Val)(ba:a.bits<18446744073709551616)(bb:b.bits<18446744073709551616)(ta:a.text.length≤1000000)(tb:b.text.length≤1000000)(H:Heap):ACall prog 48 [a.av,b.av] H (λz H'=>z= .int .i64 (ajK a b)∧H'=H):=by
 refine .of_body func48 rfl ntmps48 results48 rfl ?_;iterate 10 refine AX ?_
 refine .p rfl (zA U24 rfl Z3 (tm rfl)) ?_;iterate 10 refine AX ?_
 refine .cx rfl (λhc9=>?_) (λhc9=>?_)
 ·iterate 2 refine AX ?_
  refine .p rfl (zA U24 rfl Z22 (tm rfl)) ?_;refine AX ?_;refine .p rfl (zA U24 rfl Z22 (tm rfl)) ?_;refine AX ?_;refine .cl rfl call105 (evs2 rfl rfl) (ayT _ _ aB aB _) ?_;iterate 17 refine AX ?_
  refine⟨?_,rfl⟩;simp only[yD,ajK];rw[aJ]
  done
 iterate 6 refine AX ?_
 refine .cx rfl (λhc20=>?_) (λhc20=>?_)
 ·refine AX ?_;refine .draw [(0,true),(1,true),(2,true),(3,true),(4,true),(5,true),(6,true),(7,true)] rfl aE ?_;refine .p rfl rfl (zA U24 rfl Z4 (tm rfl)) ?_;refine AX ?_;refine .f rfl rfl (λ_=>zB call44 (evs1 rfl) (aoR _ _)) ?_;refine .p rfl rfl (zA U24 rfl Z4 (tm rfl)) ?_;refine AX ?_;refine .f rfl rfl (λ_=>zB call44 (evs1 rfl) (aoR _ _)) ?_;refine .f rfl rfl (λ_=>zB call113 (evs2 rfl rfl) (compareA _ _ _)) ?_;iterate 7 refine AX ?_
  refine⟨?_,rfl⟩;simp only[yD,ajK];rw[aI,aJ]
  done
 iterate 4 refine AX ?_
 refine .draw [(0,true),(1,true),(2,true),(3,true),(4,true),(5,true),(6,true),(7,true)] rfl aE ?_;refine .p rfl rfl (zA U24 rfl Z9 (tm rfl)) ?_;refine AX ?_;refine .f rfl rfl (λ_=>zB call41 (evs1 rfl) (alZ _ aB _)) ?_;refine .p rfl rfl (zA U24 rfl Z9 (tm rfl)) ?_;refine AX ?_;refine .f rfl rfl (λ_=>zB call41 (evs1 rfl) (alZ _ aB _)) ?_;refine .f rfl rfl (λ_=>zB call113 (evs2 rfl rfl) (compareA _ _ _)) ?_;iterate 5 refine AX ?_
 refine⟨?_,rfl⟩;simp only[yD,ajK];rw[aI,aI]
 done
theorem compareCall(x y:Val)(bx:x.bits<18446744073709551616)(by':y.bits<18446744073709551616)(tx:x.text.length≤1000000)(ty:y.text.length≤1000000):∀H,ACall prog 48 [.agg [.int .i64 x.kind,.int .u64 (x.bits:Int),.bool x.is,.str x.text,.int .i64 x.fail],.agg [.int .i64 y.kind,.int .u64 (y.bits:Int),.bool y.is,.str y.text,.int .i64 y.fail]] H (λz H'=>z= .int .i64 (ajK x y)∧H'=H):=λH=>bbT x y bx by' tx ty H
theorem bgH{a b:Val}(h:a.kind=4∨b.kind=4):aaG a b=0:=aN h
theorem ahN{a b:Val}(h:¬(a.kind=4∨b.kind=4)):aaG a b=if a.kind=0 then ajK (aiT b.kind) b else if b.kind=0 then ajK a (aiT a.kind)else if a.kind=b.kind then ajK a b else sgn (aoO a.kind) (aoO b.kind):=by
 unfold aaG;rw[aL h];by_cases ha:a.kind=0
 ·simp[ha,aiT]
 by_cases hb:b.kind=0
 ·simp[ha,hb,aiT]
 by_cases hk:a.kind=b.kind
 ·simp only[hb,if_false,hk,ne_eq,not_true,if_true]
 simp only[ha,hb,if_false,hk,ne_eq,not_false_eq_true,if_true]
theorem abQ(p:AV)(a b:Val)(ba:a.bits<18446744073709551616)(bb:b.bits<18446744073709551616)(ta:a.text.length≤1000000)(tb:b.text.length≤1000000)(H:Heap):ACall prog 18 [p,a.av,b.av] H (λz H'=>z= .int .i64 (aaG a b)∧H'=H):=by
 refine .of_body func18 rfl ntmps18 results18 rfl ?_;iterate 2 refine AX ?_
 refine .s rfl (anD (tm rfl) (.inr ⟨_,rfl⟩)) ?_;rintro _ _ ⟨b4,hb4,rfl,hH⟩;obtain rfl:=hH.symm;refine .s rfl (anD (tm rfl) (.inr ⟨_,rfl⟩)) ?_;rintro _ _ ⟨b5,hb5,rfl,hH⟩;obtain rfl:=hH.symm;have hn4_5:=Heap.ne_of (oS _ _ _) hb5;iterate 5 refine AX ?_
 refine .seqTo 7 (.bool (decide (a.kind=4)||decide (b.kind=4))) [4,5,6] ?_ ?_
 ·refine AX ?_;refine .p rfl (zD U24 rfl Z3 (tm rfl)) ?_;iterate 3 refine AX ?_
  refine zC (t:=11) rfl (λhg11=>?_) (λhg11=>?_)
  ·have hh11:=hg11;try simp only[aO]at hh11
   iterate 6 refine AX ?_
   exact⟨rfl,zL rfl (by(simp;omega)) sX,rfl⟩
  have hh11:=hg11;try simp only[aM]at hh11
  refine .gp rfl rfl rfl aB (zD U24 rfl Z3 (tm rfl)) (.gs rfl rfl rfl aB (yC G3 (tm rfl) (oS _ _ _) rfl) ?_);rintro _ _ ⟨rfl,hH⟩;obtain rfl:=hH.symm;iterate 4 refine AX ?_
  exact⟨rfl,zL rfl (by(simp;omega)) sX,rfl⟩
 refine .sub [(7,_),(4,_),(5,_),(6,_)] sX ?_;refine .cx rfl (λhc7=>?_) (λhc7=>?_)
 ·simp only[cN,aO]at hc7;iterate 5 refine AX ?_
  refine .dropb (hb5) ?_;refine .dropb (hb4) ?_;iterate 4 refine AX ?_
  refine⟨?_,rfl⟩;simp only[yD];rw[bgH hc7]
  done
 simp only[cC,aM]at hc7;iterate 2 refine AX ?_
 refine .p rfl (zD U24 rfl Z3 (tm rfl)) ?_;iterate 5 refine AX ?_
 refine .cx rfl (λhc16=>?_) (λhc16=>?_)
 ·refine AX ?_;refine .p rfl (zD U24 rfl Z3 (tm rfl)) ?_;refine AX ?_;refine .p rfl (zX zr24 pl24 (.cons (tm rfl) (.inl rfl) .nil) rfl) ?_;iterate 7 refine AX ?_
  refine .p rfl (zD U24 rfl Z3 (tm rfl)) ?_;refine AX ?_;refine .p rfl (zD U24 rfl Z3 (tm rfl)) ?_;iterate 4 refine AX ?_
  refine .frz (t:=5) rfl (fS hb5 _) ?_;refine .frz (t:=4) rfl (hb4) ?_;refine .cx rfl (λhc34=>?_) (λhc34=>?_)
  ·refine AX ?_;refine .draw [(0,true),(1,true),(2,true),(3,true),(4,true),(5,true),(6,true),(7,true)] rfl aE ?_;refine .p rfl rfl (zA U24 rfl Z3 (tm rfl)) ?_;refine AX ?_;refine .f rfl rfl (λ_=>zB C47 (evs1 rfl) (aeR _ _)) ?_;refine .p rfl rfl (zA U24 rfl Z3 (tm rfl)) ?_;refine AX ?_;refine .f rfl rfl (λ_=>zB C47 (evs1 rfl) (aeR _ _)) ?_;refine .f rfl rfl (λ_=>zB call46 (evs2 rfl rfl) (akP _ _ _)) ?_;iterate 6 refine AX ?_
   refine⟨?_,rfl⟩;simp only[yD];exact(hc34 trivial).elim
  iterate 6 refine AX ?_
  refine .cl rfl call48 (evs2 rfl rfl) (by exact compareCall (aiT b.kind) b (by(show(0:Nat)<18446744073709551616;decide)) aB (Nat.zero_le _) aB _) ?_;iterate 5 refine AX ?_
  refine⟨?_,rfl⟩;simp only[yD];rw[ahN aA,aJ]
  done
 iterate 2 refine AX ?_
 refine .p rfl (zD U24 rfl Z3 (tm rfl)) ?_;iterate 5 refine AX ?_
 refine .cx rfl (λhc23=>?_) (λhc23=>?_)
 ·refine AX ?_;refine .p rfl (zD U24 rfl Z3 (tm rfl)) ?_;refine AX ?_;refine .p rfl (zX zr24 pl24 (.cons (tm rfl) (.inl rfl) .nil) rfl) ?_;iterate 7 refine AX ?_
  refine .p rfl (zD U24 rfl Z3 (tm rfl)) ?_;refine AX ?_;refine .p rfl (zD U24 rfl Z3 (tm rfl)) ?_;iterate 4 refine AX ?_
  refine .frz (t:=5) rfl (hb5) ?_;refine .frz (t:=4) rfl (hb4) ?_;refine .cx rfl (λhc34=>?_) (λhc34=>?_)
  ·refine AX ?_;refine .draw [(0,true),(1,true),(2,true),(3,true),(4,true),(5,true),(6,true),(7,true)] rfl aE ?_;refine .p rfl rfl (zA U24 rfl Z3 (tm rfl)) ?_;refine AX ?_;refine .f rfl rfl (λ_=>zB C47 (evs1 rfl) (aeR _ _)) ?_;refine .p rfl rfl (zA U24 rfl Z3 (tm rfl)) ?_;refine AX ?_;refine .f rfl rfl (λ_=>zB C47 (evs1 rfl) (aeR _ _)) ?_;refine .f rfl rfl (λ_=>zB call46 (evs2 rfl rfl) (akP _ _ _)) ?_;iterate 6 refine AX ?_
   refine⟨?_,rfl⟩;simp only[yD];exact(hc34 trivial).elim
  iterate 6 refine AX ?_
  refine .cl rfl call48 (evs2 rfl rfl) (by exact compareCall a (aiT a.kind) aB (by(show(0:Nat)<18446744073709551616;decide)) aB (Nat.zero_le _) _) ?_;iterate 5 refine AX ?_
  refine⟨?_,rfl⟩;simp only[yD];rw[ahN aA,aI,aJ]
  done
 iterate 6 refine AX ?_
 refine .p rfl (zD U24 rfl Z3 (tm rfl)) ?_;refine AX ?_;refine .p rfl (zD U24 rfl Z3 (tm rfl)) ?_;iterate 4 refine AX ?_
 refine .frz (t:=5) rfl (hb5) ?_;refine .frz (t:=4) rfl (hb4) ?_;refine .cx rfl (λhc34=>?_) (λhc34=>?_)
 ·refine AX ?_;refine .draw [(0,true),(1,true),(2,true),(3,true),(4,true),(5,true),(6,true),(7,true)] rfl aE ?_;refine .p rfl rfl (zA U24 rfl Z3 (tm rfl)) ?_;refine AX ?_;refine .f rfl rfl (λ_=>zB C47 (evs1 rfl) (aeR _ _)) ?_;refine .p rfl rfl (zA U24 rfl Z3 (tm rfl)) ?_;refine AX ?_;refine .f rfl rfl (λ_=>zB C47 (evs1 rfl) (aeR _ _)) ?_;refine .f rfl rfl (λ_=>zB call46 (evs2 rfl rfl) (akP _ _ _)) ?_;iterate 6 refine AX ?_
  refine⟨?_,rfl⟩;simp only[yD];rw[ahN aA,aI,aI,aI]
  done
 iterate 6 refine AX ?_
 refine .cl rfl call48 (evs2 rfl rfl) (compareCall a b aB aB aB aB _) ?_;iterate 5 refine AX ?_
 refine⟨?_,rfl⟩;simp only[yD];rw[ahN aA,aI,aI,aJ]
 done
end
theorem clG:∃k:Nat,k=2500∧BIG<10^k:=⟨2500,rfl,by unfold BIG;decide+kernel⟩
theorem bxJ(ds:List UInt8):(bfG ds).length≤ds.length:=avE _ _
theorem bxA(ds:List UInt8):anX ds≤ds.length:=by unfold anX;have:=bxJ ds;omega
theorem ciV(neg:Bool){m:Nat}{e:Int}(hm:m<18014398509481984)(he: -1075≤e∧e≤972): -1075≤(ofN neg m e).2.2∧(ofN neg m e).2.2≤2500:=by
 obtain⟨K,hK,hB⟩:=clG;have h1:=bwO hm he;have h2:(dec (ofR m e)).length≤K:=(ahX aA).2 (cL h1 hB);have h3:=bxA (dec (ofR m e));have h4: -1075≤ofX m e∧ofX m e≤0:=by
  unfold ofX;have:=(arP (-e).toNat m).2;split<;>omega
 rw[bwP];unfold mkN;split
 ·simp
 split
 ·simp only;omega
 simp
theorem cbE{x:Nat}(hk:zK x<3):(asV x 15).2=0∧ -2000≤(asV x 15).1.2.2∧(asV x 15).1.2.2≤5000:=by
 have hm:=qD x;have hp:=yM x;have he:=ciV (aeK x) (m:=yF x) (e:=yG x) aA hp;have hr:=beY (aeK x) (yF x) (yG x);have hl:=(qT hr).1;unfold asV;rw[aI];unfold avH;rw[aI];generalize ofN (aeK x) (yF x) (yG x)=o at *;obtain⟨ng,ds,e⟩:=o
 dsimp only at he hr hl ⊢
 unfold caK;split
 ·exact⟨rfl,by show-2000≤e;omega,by show e≤5000;omega⟩
 rename_i hlen
 unfold clK;have hs:∀s:List UInt8,s.length≤16→(mkN ng s (e+ds.length-15)).2=0∧ -2000≤(mkN ng s (e+ds.length-15)).1.2.2∧(mkN ng s (e+ds.length-15)).1.2.2≤5000:=by
  intro s hs;have h1:=bxA s;have h2:(adR s).length≤s.length:=aZ (ajX _ _) (bxJ s);unfold mkN;split
  ·simp
  split
  ·exact⟨rfl,by show-2000≤e+(ds.length:Int)-15+(anX s:Int);omega,by show e+(ds.length:Int)-15+(anX s:Int)≤5000;omega⟩
  rename_i h;exact absurd (show okD s (e+ds.length-15)from⟨by omega,by omega,by omega⟩) h
 refine hs _ ?_;split
 ·refine aZ (asD _) ?_;rw[aS];omega
 rw[aS];omega
theorem ckA(hk:l.ok){neg:Bool}{ds:List UInt8}{e:Int}(hr:qE ds e=true)(hlen:ds.length≤16)(he: -2000≤e∧e≤5000):(bsB l ((neg,ds,e),0)).length≤900:=by
 obtain⟨h1,h2,h3,h4,h5⟩:=hk;have hm:(if neg=true then l.minus else []).length≤10:=by split;exact h3;simp
 unfold bsB;simp only[ne_eq,not_true_eq_false,if_false];have hp9:=he;split
 ·rename_i hp
  have hp2:(ds.length:Int)+e≤15∧ -4≤(ds.length:Int)+e:=by
   rcases hp with rfl|hp
   ·have:e=0:=by simpa[qE]using hr
    subst this;exact⟨by simp,by simp⟩
   exact⟨hp.2,hp.1⟩
  have hs:(aaV ds ((ds.length:Int)+e)).1.1.length≤100∧(aaV ds ((ds.length:Int)+e)).1.2.length≤100:=by
   unfold aaV;split
   ·simp
   split
   ·simp only[aX,bN,aP,cE];omega
   split
   ·simp only[bN,aP,cE];omega
   simp only[aS,bD];omega
  have h6:(if(aaV ds ((ds.length:Int)+e)).1.2=[]then []else l.dc++(aaV ds ((ds.length:Int)+e)).1.2).length≤110:=by
   by_cases q:(aaV ds ((ds.length:Int)+e)).1.2=[]
   ·rw[aN q];simp
   rw[aL q,aP];omega
  unfold agZ;by_cases q:(aaV ds ((ds.length:Int)+e)).2=true
  ·rw[aN q,aP,aP];omega
  rw[aL q];simp
 have hd:(dec (apU ((ds.length:Int)+e))).length≤8:=(ahX aC).2 (by unfold apU;split<;>omega);have h0:(if(dec (apU ((ds.length:Int)+e))).length<2 then([48]:List UInt8)else []).length≤1:=by split<;>simp
 have h6:(if(1:Int)<(ds.length:Int)then l.dc++ds.drop 1 else []).length≤110:=by
  by_cases q:(1:Int)<(ds.length:Int)
  ·rw[aN q,aP,bD];omega
  rw[aL q];simp
 unfold amO;simp only[aP,aX,bN,aS];omega
theorem buV(hk:l.ok){x:Nat}(hx:zK x<3):(bsB l (asV x 15)).length≤900:=by
 obtain⟨h1,h2,h3⟩:=cbE hx;have hr:=apB x 15;have hl2:=azP x 15;generalize hs:asV x 15=s at *;obtain⟨⟨ng,ds,e⟩,er⟩:=s
 dsimp only at h1 h2 h3 hr hl2 ⊢
 subst h1;exact ckA hk hr aA ⟨h2,h3⟩
theorem acP(hl:l∈locs)(h:acN v=true):(adN l v).1.length≤1000000:=by
 have ht:=aiG h;unfold adN;split
 ·rename_i hk
  rcases agN h with e|⟨hk3,_⟩|e|⟨_,e⟩|⟨_,e⟩
  ·rw[e]at hk;exact absurd hk aC
  ·exact aZ (buV (abG l hl) hk3) aC
  ·rw[e]at hk;exact absurd hk (show¬(2:Int)=1 by decide)
  ·rw[e]at hk;exact absurd hk (show¬(3:Int)=1 by decide)
  rw[e]at hk;exact absurd hk (show¬(4:Int)=1 by decide)
 split
 ·cases v.is<;>decide
 exact aZ ht aC
end Go.Proofs.YtmmgbnolccpjoaaGreatDoor
