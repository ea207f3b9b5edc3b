import Derived.Test.YtmmgbnolccpjoaaGreatDoorB4
set_option maxHeartbeats 1000000
namespace Go.Proofs.YtmmgbnolccpjoaaGreatDoor
open Go.Proofs.Tryz
open Go Go.RowKit
open Go.Lib
variable{l:Loc}{i:Nat}{t:List UInt8}
section
set_option maxRecDepth 100000
theorem ayN{s p:List UInt8}(h:hasPrefix s p=true):p.length≤s.length:=by
 obtain⟨z,rfl⟩:=adQ.1 h;rw[aP];omega
theorem ckB{d:List UInt8}(h:i<d.length):gRo l 0 (d.drop i) (decide (i=0))=(if 0<i∧alO l (d.length-i)then l.grp else [])++([d.getD i 0]++gRo l 0 (d.drop (i+1)) (decide (i+1=0))):=by
 rw[cD h,gRo,bB (show¬i+1=0 by omega),bD,aR,bG h];have e:d.length-(i+1)+1+0=d.length-i:=by omega
 rw[e];by_cases hi:i=0
 ·subst hi;simp
 rw[bB hi];by_cases hm:alO l (d.length-i)
 ·rw[aN ⟨rfl,hm⟩,aN ⟨by omega,hm⟩];rfl
 rw[aL (λq=>hm q.2),aL (λq=>hm q.2)];rfl
theorem cmR{d:Nat}(h:(3:Int)≤(d:Int)-(i:Int)):((d:Int)-(i:Int)-3).tmod (l.second:Int)=0↔alO l (d-i):=by
 have e:(d:Int)-(i:Int)-3=((d-i-3:Nat):Int):=by omega
 unfold alO cnU;rw[e,←Int.ofNat_tmod];omega
theorem cmQ{d:Nat}(h:(d:Int)-(i:Int)<3):¬alO l (d-i):=λq=>by
 have:=q.1;omega
def cfZ(l:Loc)(d:List UInt8)(H:Heap):Nat→Env→Heap→Prop:=λk env H1=>∃(i:Nat)(o:List UInt8),i≤d.length∧o++(gRo l 0 (d.drop i) (decide (i=0)))=gR l d∧o.length≤11*i∧env=[(1,.str d),(2,.iptr (rL l).cells),(5,.str o),(6,.int .i64 (i:Int))]∧H=H1∧k=d.length-i
theorem awJ(l:Loc)(hk:l.ok)(hs2:l.second=2∨l.second=3)(d:List UInt8)(hd:d.length≤10000):Fn 179 [rL l,.str d] (.str (gR l d)):=by
 intro H;obtain⟨hk1,hk2,hk3,hk4,hk5⟩:=hk;have hml:=zJ;refine .of_body func179 rfl ntmps179 results179 rfl ?_;iterate 18 refine AX ?_
 refine .loopW (cfZ l d H) (d.length) ⟨0,[],by omega,rfl,by simp,rfl,rfl,rfl⟩ sX (hRa _) ?_;rintro _ _ _ ⟨i,o,hi,hg,hl,rfl,rfl,rfl⟩;iterate 9 refine AX ?_
 refine .cx rfl (λhc11=>?_) (λhc11=>?_)
 ·iterate 13 refine AX ?_
  refine .seqToL [(5,.str (o++(if 0<i∧alO l (d.length-i)then l.grp else [])))] [1,2,6] ?_ ?_
  ·refine .seqTo 31 (.bool (decide (0<i∧alO l (d.length-i)))) [1,2,5,6] ?_ ?_
   ·iterate 4 refine AX ?_
    refine zC (t:=20) rfl (λhg20=>?_) (λhg20=>?_)
    ·iterate 4 refine AX ?_
     refine zC (t:=24) rfl (λhg24=>?_) (λhg24=>?_)
     ·iterate 2 refine AX ?_
      refine .gp rfl rfl rfl aB (zA U31 rfl Z3 (tm rfl)) ?_;refine AX ?_;refine .gp rfl rfl rfl aB (alA (tm rfl) (tm rfl) aA) ?_;iterate 3 refine AX ?_
      exact⟨rfl,zL rfl (by(simp_all;exact cmR aA)) sX,rfl⟩
     iterate 8 refine AX ?_
     exact⟨rfl,zL rfl (by(simp_all;exact cmQ aA)) sX,rfl⟩
    iterate 12 refine AX ?_
    exact⟨rfl,zL rfl aH sX,rfl⟩
   refine .sub [(31,_),(1,_),(2,_),(5,_),(6,_)] sX ?_;refine .cx rfl (λhc31=>?_) (λhc31=>?_)
   ·iterate 2 refine AX ?_
    refine .p rfl (zA U31 rfl Z9 (tm rfl)) ?_;refine AX ?_;refine .p rfl (zS (tm rfl) (tm rfl) (by rw[zJ];omega)) ?_;iterate 2 refine AX ?_
    exact⟨rfl,(zM rfl (by(rw[aN aB];done)) sX),rfl⟩
   refine AX ?_;exact⟨rfl,(zM rfl (by(rw[aL aB,bP];done)) sX),rfl⟩
  refine .sub [(5,_),(1,_),(2,_),(6,_)] sX ?_;iterate 7 refine AX ?_
  refine .p rfl (zS (tm rfl) (tm rfl) (by rw[zJ];simp only[aP,bD,aS];(try split)<;>(try simp only[bN])<;>omega)) ?_;iterate 10 refine AX ?_
  have hst:=ckB (l:=l) (show i<d.length by omega);refine Round.mk ⟨i+1,o++((if 0<i∧alO l (d.length-i)then l.grp else [])++[d.getD i 0]),by omega,by rw[←hg,hst];simp only[aQ],by simp only[aP,aX,bN];split<;>(try simp only[bN])<;>omega,rfl,rfl,rfl⟩ (zI rfl (zI rfl (zM rfl (by rw[show((i:Int)).toNat=i from rfl,show((i:Int)+1).toNat=i+1 by omega,asU aA,aQ]) (zI rfl yJ)))) (hRa _) aA
 iterate 13 refine AX ?_
 refine⟨?_,rfl⟩;have hi2:i=d.length:=by omega
 subst hi2;rw[fD]at hg;rw[←hg];show AV.str o= .str (o++[]);rw[bP]
theorem cfV(s:List UInt8):∀x,x∈s.map bv→x.row 1:=λx hx=>by
 obtain⟨b,_,rfl⟩:=List.mem_map.1 hx;exact⟨rfl,rfl⟩
theorem bzR(o:List UInt8)(c:UInt8):o.map bv++[.int .u8 ((c.toNat:Nat):Int)]=(o++[c]).map bv:=by rw[fU];rfl
theorem atA{l:Loc}(hg:l.grp≠[]):∀(f g:Nat)(s:List UInt8),s.length≤f→s.length≤g→aeJ l f s=aeJ l g s
 |0,0,_,_,_=>rfl
 |0,g+1,s,h,_=>by
  have:s=[]:=cF.1 aA;subst this;simp[aeJ]
 |f+1,0,s,_,h=>by
  have:s=[]:=cF.1 aA;subst this;simp[aeJ]
 |f+1,g+1,s,h1,h2=>by
  have:=bS.2 hg;rw[aeJ,aeJ,atA hg f g (s.drop 1) (by rw[bD];omega) (by rw[bD];omega),atA hg f g (s.drop l.grp.length) (by rw[bD];omega) (by rw[bD];omega)]
def alN(l:Loc)(s:List UInt8):Option (List UInt8×Bool):=aeJ l s.length s
def awE(o:List UInt8)(m:Bool)(r:Option (List UInt8×Bool)):Option (List UInt8×Bool):=match r with|none=>none|some (d,m2)=>some (o++d,m||m2)
theorem cbK(hg:l.grp≠[]){s:List UInt8}(h:i<s.length)(hd:apQ (s.getD i 0)=true)(o:List UInt8)(m:Bool):awE o m (alN l (s.drop i))=awE (o++[s.getD i 0]) m (alN l (s.drop (i+1))):=by
 have e:=cD h;have e2:s.getD i 0=s[i]:=by rw[aR,bG h];rfl
 unfold alN;rw[e,aX,aeJ,aL (List.cons_ne_nil _ _),cI,aN (by rw[←e2];exact hd),fI,cU,e2];cases aeJ l (s.drop (i+1)).length (s.drop (i+1))with
 |none=>rfl
 |some q=>simp[awE]
theorem cbJ(hg:l.grp≠[]){s:List UInt8}(h:i<s.length)(hd:apQ (s.getD i 0)=false)(hp:hasPrefix (s.drop i) l.grp=true)(o:List UInt8)(m:Bool):awE o m (alN l (s.drop i))=awE o true (alN l (s.drop (i+l.grp.length))):=by
 have e:=cD h;have e2:s.getD i 0=s[i]:=by rw[aR,bG h];rfl
 have hl:=bS.2 hg;have e3:aeJ l (s.drop i).length (s.drop i)=(match aeJ l (s.drop (i+1)).length ((s.drop i).drop l.grp.length)with|none=>none|some (d,_)=>some (d,true)):=by
  conv=>lhs;rw[e,aX,aeJ,←e]
  rw[aL (by rw[e];exact List.cons_ne_nil _ _),aL (by rw[e,cI,←e2,hd];decide),aN hp];rfl
 unfold alN;rw[e3,fY,atA hg _ (s.drop (i+l.grp.length)).length _ (by rw[bD,bD];omega) (aV _)];cases aeJ l (s.drop (i+l.grp.length)).length (s.drop (i+l.grp.length))with
 |none=>rfl
 |some q=>simp[awE]
theorem cbL{s:List UInt8}(h:i<s.length)(hd:apQ (s.getD i 0)=false)(hp:hasPrefix (s.drop i) l.grp=false):alN l (s.drop i)=none:=by
 have e:=cD h;have e2:s.getD i 0=s[i]:=by rw[aR,bG h];rfl
 unfold alN
 conv=>lhs;rw[e,aX,aeJ,←e]
 rw[aL (by rw[e];exact List.cons_ne_nil _ _),aL (by rw[e,cI,←e2,hd];decide),aL (by rw[hp];decide)]
theorem bmS{s:List UInt8}(hi:i≤s.length):(decide ((s.length:Int)<(i:Int)+(t.length:Int))||decide ((s.take ((i:Int)+(t.length:Int)).toNat).drop (i:Int).toNat≠t))= !hasPrefix (s.drop i) t:=by
 have e1:((i:Int)+(t.length:Int)).toNat=i+t.length:=by omega
 have e2:((i:Int)).toNat=i:=rfl;rw[e1,e2,←hasPrefix_of_take,bD,List.drop_take,fR,Bool.not_and,←decide_not];congr 1
 ·exact aT.2 aA
 by_cases h:(s.drop i).take t.length=t<;>simp[h]
theorem bdW(c:UInt8):Fn 319 [.int .u8 ((c.toNat:Nat):Int)] (.bool (apQ c)):=by
 intro H;refine .of_body func319 rfl ntmps319 results319 rfl ?_;iterate 10 refine AX ?_
 refine zC (t:=5) rfl (λhg5=>?_) (λhg5=>?_)
 ·iterate 8 refine AX ?_
  refine⟨congrArg AV.bool ?_,rfl⟩;unfold apQ;rw[aY (show 48≤c.toNat by simp_all;omega)];exact aT.2 aA
 iterate 8 refine AX ?_
 refine⟨congrArg AV.bool ?_,rfl⟩;unfold apQ;rw[bB (show¬48≤c.toNat by simp_all;omega)];rfl
theorem aqR(c:UInt8):Fn 274 [.int .u8 ((c.toNat:Nat):Int)] (.bool (apQ c)):=by
 intro H;refine .of_body func274 rfl ntmps274 results274 rfl ?_;iterate 10 refine AX ?_
 refine zC (t:=5) rfl (λhg5=>?_) (λhg5=>?_)
 ·iterate 8 refine AX ?_
  refine⟨congrArg AV.bool ?_,rfl⟩;unfold apQ;rw[aY (show 48≤c.toNat by simp_all;omega)];exact aT.2 aA
 iterate 8 refine AX ?_
 refine⟨congrArg AV.bool ?_,rfl⟩;unfold apQ;rw[bB (show¬48≤c.toNat by simp_all;omega)];rfl
def azX(l:Loc)(s:List UInt8)(H:Heap):Nat→Env→Heap→Prop:=λk env H1=>∃(i t:Nat)(o:List UInt8)(m:Bool),i≤s.length∧awE o m (alN l (s.drop i))=alN l s∧o.length≤i∧env=[(1,.str s),(2,.iptr (rL l).cells),(6,.slice 1 (o.map bv) (.own t)),(7,.bool m),(8,.int .i64 (i:Int))]∧H.le H1∧H1.toks t=true∧H.toks t=false∧k=s.length-i
theorem beE(l:Loc)(hk:l.ok)(hs2:l.second=2∨l.second=3)(hg:l.grp≠[])(s:List UInt8)(hs:s.length≤4000)(H:Heap):ACall prog 275 [rL l,.str s] H (λy H'=>y= .tuple [.str ((afK l s).getD []),.bool (afK l s).isSome]∧H'=H):=by
 have hle0:=hRa H;obtain⟨hk1,hk2,hk3,hk4,hk5⟩:=id hk;have hgl:=bS.2 hg;have hml:=zJ;refine ACall.of_body func275 rfl ntmps275 results275 rfl ?_;iterate 24 refine AX ?_
 refine AWP.tag (t:=6) rfl (λu6 hu6=>?_);have hfu6:=Heap.fresh_of hle0 hu6;have hleu6:=Heap.le_in hle0 u6;refine AWP.loopW (azX l s H) (s.length) ⟨0,u6,[],false,by omega,by rw[cU];unfold awE;cases alN l s<;>simp,by simp,rfl,hleu6,Heap.toks_live_same _ _,hfu6,rfl⟩ sX (hRa _) ?_;rintro _ _ H1 ⟨i,t,o,m,hi,hsc,hol,rfl,hle1,hlive,hfr,rfl⟩;iterate 9 refine AX ?_
 refine AWP.cx rfl (λhc14=>?_) (λhc14=>?_)
 ·iterate 8 refine AX ?_
  refine .cl rfl call319 (evs1 rfl) (bdW _ _) ?_;iterate 9 refine AX ?_
  refine AWP.cx rfl (λhc19=>?_) (λhc19=>?_)
  ·have hdg:apQ (s.getD i 0)=true:=hc19;iterate 6 refine AX ?_
   refine .e rfl (qM U142 Z5 V5 rfl (tm rfl) (.inl rfl) ⟨rfl,rfl⟩) ?_;refine .s rfl (abD U142 U142 Z5 typeInfo5 V5 rfl aC (tm rfl) (tm rfl) (by exact .own _ hlive) (by show(_+_)*1≤_;simp only[eS,aX,bN];omega) (by repeat' (first|exact yA _|exact aaS|exact afI ⟨rfl,rfl⟩ aaS|exact qW (yA _)|exact qV (yA _)|refine aaW ?_ ?_ |exact cfV _)) (by repeat' (first|exact yA _|exact aaS|exact afI ⟨rfl,rfl⟩ aaS|exact qW (yA _)|exact qV (yA _)|refine aaW ?_ ?_))) ?_;rintro _ _ ⟨t25,ht25,rfl,hH⟩;obtain rfl:=hH.symm;have hf25:=Heap.fresh_of hle1 ht25;have hle25:=Heap.le_in (Heap.le_out (t:=t) hle1 aB) t25;iterate 14 refine AX ?_
   refine Round.mk (J:=azX l s H) ⟨i+1,t25,o++[s.getD i 0],m,by omega,by rw[←hsc];exact(cbK hg aA hdg o m).symm,by simp only[aP,aX,bN];omega,rfl,hle25,Heap.toks_live_same _ _,hf25,rfl⟩ (zI rfl (zI rfl (zM rfl (adI (bzR _ _)) (zI rfl (zM rfl (by congr 1) yJ))))) (hRa _) aA
  have hdg:apQ (s.getD i 0)=false:=hc19;iterate 4 refine AX ?_
  refine .p rfl (zA U31 rfl Z9 (tm rfl)) ?_;iterate 6 refine AX ?_
  refine AWP.seqTo 47 (.bool (decide ((s.length:Int)<(i:Int)+(l.grp.length:Int))||decide ((s.take ((i:Int)+(l.grp.length:Int)).toNat).drop (i:Int).toNat≠l.grp))) [1,2,6,7,8,10] ?_ ?_
  ·refine AWP.draw [(0,true),(1,true),(2,true),(3,true),(4,true),(5,true),(6,true),(7,true),(8,true),(9,true),(10,true),(11,true),(12,true),(13,true),(14,true),(15,true),(16,true)] rfl aE ?_;iterate 7 refine AX ?_
   refine avM (t:=37) rfl (λhg37=>?_) (λhg37=>?_)
   ·have hh37:=hg37;try simp only[aO]at hh37
    iterate 11 refine AX ?_
    exact⟨rfl,zL rfl (by(simp[*];done)) sX,rfl⟩
   have hh37:=hg37;try simp only[aM,cO]at hh37
   iterate 6 refine AX ?_
   refine .gp rfl rfl rfl rfl aB (zA U31 rfl Z9 (tm rfl)) ?_;iterate 4 refine AX ?_
   exact⟨rfl,zL rfl (by(simp[*];done)) sX,rfl⟩
  refine AWP.sub [(47,_),(1,_),(2,_),(6,_),(7,_),(8,_),(10,_)] sX ?_;refine AWP.cx rfl (λhc47=>?_) (λhc47=>?_)
  ·have hpp:hasPrefix (s.drop i) l.grp=false:=by
    rw[bmS aA]at hc47;simpa using hc47
   iterate 12 refine AX ?_
   refine Ret.go (.cons (.tmp _ _ rfl) (.cons (.tmp _ _ rfl) .nil)) _ (hle1) ?_;refine⟨?_,rfl⟩;unfold afK;rw[show aeJ l s.length s=alN l s from rfl,←hsc];rw[cbL aA hdg hpp];rfl
  have hpp:hasPrefix (s.drop i) l.grp=true:=by
   rw[bmS aA]at hc47;simpa using hc47
  have hfit:=ayN hpp;rw[bD]at hfit;iterate 15 refine AX ?_
  refine Round.mk (J:=azX l s H) ⟨i+l.grp.length,t,o,true,by omega,by rw[←hsc];exact(cbJ hg aA hdg hpp o m).symm,by omega,rfl,hle1,hlive,hfr,rfl⟩ sX (hRa _) aA
 iterate 6 refine AX ?_
 refine AWP.seqTo 64 (.bool (decide ((o.length:Int)=0)||(m&&decide (gR l o≠s)))) [6] ?_ ?_
 ·iterate 5 refine AX ?_
  refine zC (t:=54) rfl (λhg54=>?_) (λhg54=>?_)
  ·have hh54:=hg54;try simp only[aO]at hh54
   iterate 11 refine AX ?_
   exact⟨rfl,zL rfl (by(simp[*];done)) (zI rfl yJ),rfl⟩
  have hh54:=hg54;try simp only[aM]at hh54
  iterate 2 refine AX ?_
  refine zC (t:=56) rfl (λhg56=>?_) (λhg56=>?_)
  ·have hh56:=hg56;try simp only[aK]at hh56
   iterate 2 refine AX ?_
   refine .gs rfl rfl rfl aB (akY U142 U9 U5 (tm rfl)) ?_;rintro _ _ ⟨rfl,hH⟩;obtain rfl:=hH.symm;refine .gs rfl rfl rfl aB (zB call179 (evs2 rfl rfl) (awJ l hk hs2 o aA _)) ?_;rintro _ _ ⟨rfl,hH⟩;obtain rfl:=hH.symm;iterate 5 refine AX ?_
   exact⟨rfl,zL rfl aH (zI rfl yJ),rfl⟩
  have hh56:=hg56;try simp only[aK]at hh56
  iterate 9 refine AX ?_
  exact⟨rfl,zL rfl aH (zI rfl yJ),rfl⟩
 refine AWP.sub [(64,_),(6,_)] sX ?_;refine AWP.cx rfl (λhc64=>?_) (λhc64=>?_)
 ·iterate 8 refine AX ?_
  refine Ret.go (.cons (.tmp _ _ rfl) (.cons (.tmp _ _ rfl) .nil)) _ (hle1) ?_;refine⟨?_,rfl⟩;unfold afK;rw[show aeJ l s.length s=alN l s from rfl,←hsc];have hi2:i=s.length:=by omega
  rw[hi2,fD,show alN l []=some ([],false)from rfl];simp only[awE,bP,Bool.or_false];rw[aN (by simp only[cN,bL,aO]at hc64;rcases hc64 with h|h;exact .inl (cF.1 aA);exact .inr h)];rfl
 iterate 5 refine AX ?_
 refine .e rfl (akY U142 U9 U5 (tm rfl)) ?_;iterate 5 refine AX ?_
 refine Ret.go (.cons (.tmp _ _ rfl) (.cons (.tmp _ _ rfl) .nil)) _ (hle1) ?_;refine⟨?_,rfl⟩;unfold afK;rw[show aeJ l s.length s=alN l s from rfl,←hsc];have hi2:i=s.length:=by omega
 rw[hi2,fD,show alN l []=some ([],false)from rfl];simp only[awE,bP,Bool.or_false];rw[aL (by simp only[cC,bX,aM]at hc64;rintro(h|h);exact hc64.1 (by rw[h];rfl);exact hc64.2.elim (λq=>by rw[h.1]at q;cases q) (λq=>q h.2))];rfl
end
section
open Go Go.RowKit
open Go.Lib
set_option maxRecDepth 100000
structure WkN where
 s:List UInt8
 neg:Bool
 digits:List UInt8
 exp:Int
 out:EntN
def wkC(l:Loc)(q:WkN):List AV:=[.str l.name,.str l.dc,.str l.grp,.str l.lst,.str l.minus,.str l.pct,.str l.cur,.bool l.first,.bool l.space,.int .i64 (l.second:Int),.str q.s,.bool q.neg,.str q.digits,.int .i64 q.exp,.int .u64 (q.out.bits:Int),.int .i64 q.out.kind,.int .i64 q.out.places,.bool q.out.grouped,.bool q.out.exp]
abbrev Wk(l:Loc)(q:WkN):AObj:=.box 139 (wkC l q)
theorem ceU{s:List UInt8}(h:(t.length:Int)≤(s.length:Int)):decide (s.take ((t.length:Nat):Int).toNat=t)=hasPrefix s t:=by
 rw[←hasPrefix_of_take,aY (show t.length≤s.length by omega),Bool.true_and,dL];by_cases q:s.take t.length=t<;>simp[q]
theorem ceV{s:List UInt8}(h:¬(t.length:Int)≤(s.length:Int)):false=hasPrefix s t:=by
 rw[←hasPrefix_of_take,bB (show¬t.length≤s.length by omega),Bool.false_and]
theorem adT{s p:List UInt8}(h:hasPrefix s p=false):trimPrefix s p=s:=by
 unfold trimPrefix;rw[aL (by rw[h];decide)]
theorem acD{s p:List UInt8}(h:hasPrefix s p=true):trimPrefix s p=s.drop p.length:=by
 unfold trimPrefix;rw[aN h]
def afF(s:List UInt8):Nat:=if s=[]then 0 else if(s.getD 0 0).toNat=32∨(s.getD 0 0).toNat=9 then 1 else if hasPrefix s [194,160]=true then 2 else if hasPrefix s [226,128,175]=true then 3 else 0
theorem brU{e:List UInt8}(he:e∈awD)(r:List UInt8):zU (e++r)=zU r:=by
 have he1:1≤e.length:=by rcases adF he with rfl|rfl|rfl|rfl<;>simp
 have hne:e++r≠[]:=by intro q;rw[(List.append_eq_nil_iff.1 q).1]at he1;simp at he1
 unfold zU;obtain⟨f,hf⟩:∃f,(e++r).length=f+1:=⟨(e++r).length-1,by rw[aP];omega⟩;rw[hf,agJ _ _ hne,aN (alJ he r).1,(alJ he r).2,cX];exact asN _ _ _ _ (by rw[aP]at hf;omega) (aV _)
theorem bkV{s:List UInt8}(h:0<afF s):∃e∈awD,∃r,s=e++r∧afF s=e.length:=by
 unfold afF at h ⊢;split at h
 ·omega
 rename_i h0
 rw[aL h0];cases s with
 |nil=>exact absurd rfl h0
 |cons c t=>
  rw[cI]at h ⊢;split at h
  ·rename_i h1
   rw[aN h1];rcases h1 with h1|h1
   ·obtain rfl:c=32:=abM h1;exact⟨[32],by simp[awD],t,rfl,rfl⟩
   obtain rfl:c=9:=abM h1;exact⟨[9],by simp[awD],t,rfl,rfl⟩
  rename_i h1
  rw[aL h1];split at h
  ·rename_i h2
   rw[aN h2];obtain⟨r,hr⟩:=adQ.1 h2;exact⟨[194,160],by simp[awD],r,hr,rfl⟩
  rename_i h2
  rw[aL h2];split at h
  ·rename_i h3
   rw[aN h3];obtain⟨r,hr⟩:=adQ.1 h3;exact⟨[226,128,175],by simp[awD],r,hr,rfl⟩
  omega
theorem btC{e:List UInt8}(he:e∈awD)(r:List UInt8):0<afF (e++r):=by
 unfold afF;rcases adF he with rfl|rfl|rfl|rfl
 ·simp
 ·simp
 ·rw[aL aF,aL aF,aN (acX _ _)];decide
 rw[aL aF,aL aF,aL (by rw[cR,zZ aF];decide),aN (acX _ _)];decide
theorem bkU{s:List UInt8}(h:0<afF s):zU (s.drop (afF s))=zU s∧afF s≤s.length:=by
 obtain⟨e,he,r,rfl,h2⟩:=bkV h;rw[h2,cX,brU he,aP];exact⟨rfl,by omega⟩
theorem bkT{s:List UInt8}(h:¬0<afF s):zU s=s:=by
 refine auP ?_;by_cases h0:s=[]
 ·exact .inl h0
 refine .inr ?_;rw[Bool.eq_false_iff];intro q;obtain⟨e,he,r,rfl⟩:=byT q;exact h (btC he r)
theorem agB(s:List UInt8):(zU s).length≤s.length:=acZ _ _ _
theorem ahD(s:List UInt8):(abI s).length≤s.length∧(acC s).length≤s.length:=by
 have:=congrArg List.length (acE s);rw[aP]at this;exact⟨by omega,by omega⟩
theorem cbO{s:List UInt8}(h:i<s.length)(hd:apQ (s.getD i 0)=true):s.take i++acC (s.drop i)=s.take (i+1)++acC (s.drop (i+1))∧abI (s.drop i)=abI (s.drop (i+1)):=by
 have e2:s.getD i 0=s[i]:=by rw[aR,bG h];rfl
 rw[e2]at hd;rw[cD h];unfold acC abI;rw[List.takeWhile_cons,eF,hd,aN rfl,aN rfl,←cV h,aQ];exact⟨rfl,rfl⟩
theorem cbN{s:List UInt8}(h:¬(i<s.length∧apQ (s.getD i 0)=true)):acC (s.drop i)=[]∧abI (s.drop i)=s.drop i:=by
 by_cases h0:i<s.length
 ·have e2:s.getD i 0=s[i]:=by rw[aR,bG h0];rfl
  have hd:apQ s[i]=false:=by rw[←e2,Bool.eq_false_iff];exact λq=>h ⟨h0,q⟩
  rw[cD h0];unfold acC abI;rw[List.takeWhile_cons,eF,hd];exact⟨rfl,rfl⟩
 rw[eJ aA];exact⟨rfl,rfl⟩
theorem ahP(s t:List UInt8):Fn 169 [.str s,.str t] (.bool (hasPrefix s t)):=by
 intro H;refine .of_body func169 rfl ntmps169 results169 rfl ?_;iterate 13 refine AX ?_
 refine zC (t:=10) rfl (λhg10=>?_) (λhg10=>?_)
 ·have hh10:=hg10;try simp only[aO]at hh10
  iterate 12 refine AX ?_
  refine⟨congrArg AV.bool ?_,rfl⟩;exact ceU (of_decide_eq_true aB)
 have hh10:=hg10;try simp only[aM,dO]at hh10
 iterate 12 refine AX ?_
 refine⟨congrArg AV.bool ?_,rfl⟩;exact ceV (of_decide_eq_false aB)
theorem akF(s:List UInt8):Fn 168 [.str s] (.int .i64 (afF s:Int)):=by
 intro H;refine .of_body func168 rfl ntmps168 results168 rfl ?_;iterate 14 refine AX ?_
 refine .cx rfl (λhc3=>?_) (λhc3=>?_)
 ·iterate 9 refine AX ?_
  refine⟨congrArg (AV.int .i64) ?_,rfl⟩;unfold afF;rw[aN hc3];rfl
 refine .seqTo 6 (.bool (decide (((s.getD 0 0).toNat:Int)=32)||decide (((s.getD 0 0).toNat:Int)=9))) [0,2] ?_ ?_
 ·iterate 2 refine AX ?_
  refine .p rfl (abB U9 (tm rfl) zH (by have:=bS.2 hc3;omega) (by have:=bS.2 hc3;omega)) ?_;iterate 2 refine AX ?_
  refine zC (t:=10) rfl (λhg10=>?_) (λhg10=>?_)
  ·iterate 6 refine AX ?_
   exact⟨rfl,zL rfl aH sX,rfl⟩
  refine AX ?_;refine .gp rfl rfl rfl aB (abB U9 (tm rfl) zH (by have:=bS.2 hc3;omega) (by have:=bS.2 hc3;omega)) ?_;iterate 4 refine AX ?_
  exact⟨rfl,zL rfl aH sX,rfl⟩
 refine .sub [(6,_),(0,_),(2,_)] sX ?_;refine .cx rfl (λhc6=>?_) (λhc6=>?_)
 ·have hb:(s.getD 0 0).toNat=32∨(s.getD 0 0).toNat=9:=by simp only[cN,aO]at hc6;omega
  iterate 9 refine AX ?_
  refine⟨congrArg (AV.int .i64) ?_,rfl⟩;unfold afF;rw[aL hc3,aN hb];rfl
 have hb:¬((s.getD 0 0).toNat=32∨(s.getD 0 0).toNat=9):=by simp only[cC,aM]at hc6;omega
 iterate 3 refine AX ?_
 refine .cl rfl C169 (.cons (tm rfl) (.cons (zO rfl) .nil)) (ahP _ _ _) ?_;iterate 3 refine AX ?_
 refine .cx rfl (λhc15=>?_) (λhc15=>?_)
 ·iterate 9 refine AX ?_
  refine⟨congrArg (AV.int .i64) ?_,rfl⟩;unfold afF;rw[aL hc3,aL hb,aN hc15];rfl
 iterate 3 refine AX ?_
 refine .cl rfl C169 (.cons (tm rfl) (.cons (zO rfl) .nil)) (ahP _ _ _) ?_;iterate 3 refine AX ?_
 refine .cx rfl (λhc18=>?_) (λhc18=>?_)
 ·iterate 9 refine AX ?_
  refine⟨congrArg (AV.int .i64) ?_,rfl⟩;unfold afF;rw[aL hc3,aL hb,aL (by rw[hc15];decide),aN hc18];rfl
 iterate 10 refine AX ?_
 refine⟨congrArg (AV.int .i64) ?_,rfl⟩;unfold afF;rw[aL hc3,aL hb,aL (by rw[hc15];decide),aL (by rw[hc18];decide)];rfl
theorem akW(l:Loc)(q:WkN)(hq:q.s.length≤2000)(b:Nat)(H:Heap)(hb:H.objs b=some (Wk l q))(t:List UInt8):ACall prog 101 [.ptr (some ⟨b,0,none⟩),.str t] H (λy H'=>y= .bool (hasPrefix q.s t)∧H'=H.set b (Wk l {q with s:=trimPrefix q.s t})):=by
 refine .of_body func101 rfl ntmps101 results101 rfl ?_;iterate 9 refine AX ?_
 refine .p rfl (zD U139 rfl Z9 (tm rfl)) ?_;iterate 2 refine AX ?_
 refine .cl rfl C169 (evs2 rfl rfl) (ahP _ _ _) ?_;iterate 9 refine AX ?_
 refine .cx rfl (λhc12=>?_) (λhc12=>?_)
 ·have hle:=ayN hc12;iterate 4 refine AX ?_
  refine .p rfl (zD U139 rfl Z9 (tm rfl)) ?_;iterate 5 refine AX ?_
  refine .p rfl (zD U139 rfl Z9 (tm rfl)) (.e0 (zN Z9 (tm rfl) (tm rfl) rfl rfl (.inl rfl) (hb) (lB rfl)) ?_);try first|rw[sS]|rw[sU aB]
  iterate 10 refine AX ?_
  exact⟨rfl,by rw[acD aB];rfl⟩
 iterate 10 refine AX ?_
 exact⟨rfl,by rw[adT aB];exact(Heap.set_self hb).symm⟩
def atR(l:Loc)(q:WkN)(b:Nat)(H:Heap):Nat→Env→Heap→Prop:=λk env H1=>∃s1:List UInt8,zU s1=zU q.s∧s1.length≤q.s.length∧env=[(0,.ptr (some ⟨b,0,none⟩))]∧H1=H.set b (Wk l {q with s:=s1})∧k=s1.length
theorem bgM(l:Loc)(q:WkN)(hq:q.s.length≤2000)(b:Nat)(H:Heap)(hb:H.objs b=some (Wk l q)):ACall prog 100 [.ptr (some ⟨b,0,none⟩)] H (λy H'=>H'=H.set b (Wk l {q with s:=zU q.s})):=by
 refine ACall.of_body func100 rfl ntmps100 results100 rfl ?_;refine AX ?_;refine AWP.loopW (atR l q b H) (q.s.length) ⟨q.s,rfl,aV _,rfl,rfl,rfl⟩ (zI rfl yJ) (by rw[Heap.set_self hb];exact hRa _) ?_;rintro _ _ _ ⟨s1,hs1,hl1,rfl,rfl,rfl⟩;iterate 5 refine AX ?_
 refine .p rfl (zD U139 rfl Z9 (tm rfl)) ?_;refine AX ?_;refine .cl rfl call168 (evs1 rfl) (akF _ _) ?_;iterate 3 refine AX ?_
 refine AWP.cx rfl (λhc7=>?_) (λhc7=>?_)
 ·have hst:=bkU (s:=s1) aA;iterate 3 refine AX ?_
  refine AWP.drawT (.op 0 true (.op 1 true (.op 2 true (.op 3 true (.op 5 true (.op 6 true (.op 7 true (.two 4 (.op 8 false (.op 9 true (.op 10 true (.op 11 true (.op 12 true (.op 13 false .done)))))) 8 (.op 9 true (.op 4 false (.op 10 true (.op 11 true (.op 12 true (.op 13 false .done)))))))))))))) rfl aE ?_;refine ATree.p rfl rfl (zP (tm rfl)) ?_;refine ATree.p rfl rfl (zP (tm rfl)) ?_;refine ATree.p rfl rfl (aaK (tm rfl)) ?_;refine ATree.p rfl rfl (zD U139 rfl Z9 (tm rfl)) ?_;refine ATree.p rfl rfl (zP (tm rfl)) ?_;refine ATree.p rfl rfl (aaK (tm rfl)) ?_;refine ATree.p rfl rfl (zD U139 rfl Z9 (tm rfl)) ?_;refine⟨?_,?_⟩
  ·refine XTree.s rfl rfl (yC G9 (tm rfl) (oS _ _ _) rfl) ?_;rintro _ _ ⟨rfl,hH⟩;obtain rfl:=hH.symm;refine ATree.s rfl rfl (yC G9 (tm rfl) (oS _ _ _) rfl) ?_;rintro _ _ ⟨rfl,hH⟩;obtain rfl:=hH.symm;refine ATree.f rfl rfl (λ_=>zB call168 (evs1 rfl) (akF _ _)) ?_;refine ATree.p rfl rfl (aeU U9 (tm rfl) (tm rfl) (by(try dsimp only);omega) (by(try dsimp only);omega)) ?_;refine ATree.p rfl rfl (aaK (tm rfl)) ?_;refine ATree.p rfl rfl (zD U139 rfl Z9 (tm rfl)) ?_;refine ATree.s0 rfl (zN Z9 (tm rfl) (tm rfl) rfl rfl (.inl rfl) (oS _ _ _) (lB rfl)) ?_;rintro _ _ ⟨rfl,hH⟩;obtain rfl:=hH.symm;try first|rw[sS]|rw[sU aB]
   refine ATree.nil ?_;iterate 2 refine AX ?_
   refine Round.mk (J:=atR l q b H) ⟨s1.drop (afF s1),by rw[hst.1];exact hs1,by rw[bD];omega,rfl,rfl,rfl⟩ (zI rfl yJ) (hRa _) (by rw[bD];omega)
  refine XTree.s rfl rfl (yC G9 (tm rfl) (oS _ _ _) rfl) ?_;rintro _ _ ⟨rfl,hH⟩;obtain rfl:=hH.symm;refine ATree.f rfl rfl (λ_=>zB call168 (evs1 rfl) (akF _ _)) ?_;refine ATree.s rfl rfl (yC G9 (tm rfl) (oS _ _ _) rfl) ?_;rintro _ _ ⟨rfl,hH⟩;obtain rfl:=hH.symm;refine ATree.p rfl rfl (aeU U9 (tm rfl) (tm rfl) (by(try dsimp only);omega) (by(try dsimp only);omega)) ?_;refine ATree.p rfl rfl (aaK (tm rfl)) ?_;refine ATree.p rfl rfl (zD U139 rfl Z9 (tm rfl)) ?_;refine ATree.s0 rfl (zN Z9 (tm rfl) (tm rfl) rfl rfl (.inl rfl) (oS _ _ _) (lB rfl)) ?_;rintro _ _ ⟨rfl,hH⟩;obtain rfl:=hH.symm;try first|rw[sS]|rw[sU aB]
  refine ATree.nil ?_;iterate 2 refine AX ?_
  refine Round.mk (J:=atR l q b H) ⟨s1.drop (afF s1),by rw[hst.1];exact hs1,by rw[bD];omega,rfl,rfl,rfl⟩ (zI rfl yJ) (hRa _) (by rw[bD];omega)
 have hsp:=bkT (s:=s1) aA;iterate 4 refine AX ?_
 refine Ret.go' .nil _ (hRa _) ?_;rw[←hs1,hsp]
def cfT(l:Loc)(q:WkN)(b:Nat)(H:Heap):Nat→Env→Heap→Prop:=λk env H1=>∃i:Nat,i≤q.s.length∧acC q.s=q.s.take i++acC (q.s.drop i)∧abI q.s=abI (q.s.drop i)∧env=[(0,.ptr (some ⟨b,0,none⟩)),(3,.int .i64 (i:Int))]∧H=H1∧k=q.s.length-i
theorem bvH(l:Loc)(q:WkN)(hq:q.s.length≤2000)(b:Nat)(H:Heap)(hb:H.objs b=some (Wk l q)):ACall prog 227 [.ptr (some ⟨b,0,none⟩)] H (λy H'=>y= .str (acC q.s)∧H'=H.set b (Wk l {q with s:=abI q.s})):=by
 refine .of_body func227 rfl ntmps227 results227 rfl ?_;iterate 12 refine AX ?_
 refine .loopW (cfT l q b H) (q.s.length) ⟨0,by omega,rfl,rfl,rfl,rfl,by omega⟩ sX (hRa _) ?_;rintro _ _ _ ⟨i,hi,hr1,hr2,rfl,rfl,rfl⟩;refine AX ?_;refine .seqTo 20 (.bool (decide ((i:Int)<(q.s.length:Int))&&apQ (q.s.getD i 0))) [0,3] ?_ ?_
 ·iterate 4 refine AX ?_
  refine .p rfl (zD U139 rfl Z9 (tm rfl)) ?_;iterate 4 refine AX ?_
  refine zC (t:=12) rfl (λhg12=>?_) (λhg12=>?_)
  ·have hh12:=hg12;try simp only[aO]at hh12
   iterate 2 refine AX ?_
   refine .gp rfl rfl rfl aB (zD U139 rfl Z9 (tm rfl)) (.gs rfl rfl rfl aB (yC G9 (tm rfl) (hb) rfl) ?_);rintro _ _ ⟨rfl,hH⟩;obtain rfl:=hH.symm;iterate 2 refine AX ?_
   refine .gs rfl rfl rfl aB (zB call274 (evs1 rfl) (aqR _ _)) ?_;rintro _ _ ⟨rfl,hH⟩;obtain rfl:=hH.symm;iterate 2 refine AX ?_
   exact⟨rfl,zL rfl (by(rw[show decide ((i:Int)<(q.s.length:Int))=_ from hg12];rfl)) sX,rfl⟩
  have hh12:=hg12;try simp only[aM,cO]at hh12
  iterate 9 refine AX ?_
  exact⟨rfl,zL rfl (by(rw[show decide ((i:Int)<(q.s.length:Int))=_ from hg12];rfl)) sX,rfl⟩
 refine .sub [(20,_),(0,_),(3,_)] sX ?_;refine .cx rfl (λhc20=>?_) (λhc20=>?_)
 ·have hc2:i<q.s.length∧apQ (q.s.getD i 0)=true:=by simp only[bL,aO]at hc20;exact⟨by omega,hc20.2⟩
  have hst:=cbO hc2.1 hc2.2;iterate 10 refine AX ?_
  refine Round.mk ⟨i+1,by omega,by rw[←hst.1];exact hr1,by rw[←hst.2];exact hr2,rfl,rfl,rfl⟩ (zI rfl (zM rfl (by congr 1) yJ)) (hRa _) aA
 have hsp:=cbN (s:=q.s) (i:=i) (by rintro⟨h1,h2⟩;rw[h2,Bool.and_true]at hc20;exact absurd h1 (by have:=of_decide_eq_false hc20;omega));rw[hsp.1,bP]at hr1;rw[hsp.2]at hr2;iterate 9 refine AX ?_
 refine .p rfl (zD U139 rfl Z9 (tm rfl)) ?_;iterate 11 refine AX ?_
 refine .p rfl (zD U139 rfl Z9 (tm rfl)) ?_;iterate 4 refine AX ?_
 refine .p rfl (zD U139 rfl Z9 (tm rfl)) (.e0 (zN Z9 (tm rfl) (tm rfl) rfl rfl (.inl rfl) (hb) (lB rfl)) ?_);try first|rw[sS]|rw[sU aB]
 iterate 10 refine AX ?_
 exact⟨by rw[hr1];rfl,by rw[hr2];rfl⟩
theorem biD(l:Loc)(q:WkN)(hq:q.s.length≤2000)(b:Nat)(H:Heap)(hb:H.objs b=some (Wk l q)):ACall prog 102 [.ptr (some ⟨b,0,none⟩)] H (λy H'=>(∃g,y= .tuple [.bool g,.bool (yE l q.s).2])∧H'=H.set b (Wk l {q with s:=(yE l q.s).1})):=by
 have hset:∀p,hasPrefix q.s p=false→H.set b (Wk l {q with s:=trimPrefix q.s p})=H:=λp h=>by rw[adT h];exact Heap.set_self hb
 refine .of_body func102 rfl ntmps102 results102 rfl ?_;iterate 9 refine AX ?_
 refine .e rfl (zB C101 (.cons (tm rfl) (.cons (zO rfl) .nil)) (akW l q hq b _ hb _)) ?_;iterate 9 refine AX ?_
 refine .cx rfl (λhc8=>?_) (λhc8=>?_)
 ·have hsg:yE l q.s=(trimPrefix q.s [43],false):=by unfold yE;rw[aN hc8]
  iterate 9 refine AX ?_
  rw[hsg];exact⟨⟨_,rfl⟩,rfl⟩
 rw[hset _ hc8];iterate 5 refine AX ?_
 refine .e rfl (zB C101 (.cons (tm rfl) (.cons (zO rfl) .nil)) (akW l q hq b _ hb _)) ?_;iterate 10 refine AX ?_
 refine .cx rfl (λhc12=>?_) (λhc12=>?_)
 ·have hc45:hasPrefix q.s [45]=false:=by simpa using hc12
  rw[hset _ hc45];have hsg:yE l q.s=(trimPrefix q.s l.minus,hasPrefix q.s l.minus):=by unfold yE;rw[aL (by rw[hc8];decide),aL (by rw[hc45];decide)];cases hm:hasPrefix q.s l.minus with|true=>rfl|false=>simp only[eT,if_false];rw[adT hm]
  iterate 4 refine AX ?_
  refine .p rfl (zD U139 rfl Z31 (tm rfl)) (.p rfl (zD U31 rfl Z9 (tm rfl)) ?_);refine AX ?_;refine .e rfl (zB C101 (evs2 rfl rfl) (akW l q hq b _ hb _)) ?_;iterate 13 refine AX ?_
  rw[hsg];exact⟨⟨_,rfl⟩,rfl⟩
 have hc45:hasPrefix q.s [45]=true:=by simpa using hc12
 have hsg:yE l q.s=(trimPrefix q.s [45],true):=by unfold yE;rw[aL (by rw[hc8];decide),aN hc45]
 rw[hc45];iterate 12 refine AX ?_
 rw[hsg];exact⟨⟨_,rfl⟩,rfl⟩
/-! ### the same, the reader's parts said one by one -/
theorem takeW(l:Loc)(s:List UInt8)(neg:Bool)(d:List UInt8)(e:Int)(o:EntN)(hs:s.length≤2000)(b:Nat)(H:Heap)(hb:H.objs b=some (Wk l ⟨s,neg,d,e,o⟩))(t:List UInt8):ACall prog 101 [.ptr (some ⟨b,0,none⟩),.str t] H (λy H'=>y= .bool (hasPrefix s t)∧H'=H.set b (Wk l ⟨trimPrefix s t,neg,d,e,o⟩)):=akW l ⟨s,neg,d,e,o⟩ hs b H hb t
theorem blanksW(l:Loc)(s:List UInt8)(neg:Bool)(d:List UInt8)(e:Int)(o:EntN)(hs:s.length≤2000)(b:Nat)(H:Heap)(hb:H.objs b=some (Wk l ⟨s,neg,d,e,o⟩)):ACall prog 100 [.ptr (some ⟨b,0,none⟩)] H (λ_ H'=>H'=H.set b (Wk l ⟨zU s,neg,d,e,o⟩)):=bgM l ⟨s,neg,d,e,o⟩ hs b H hb
theorem rowW(l:Loc)(s:List UInt8)(neg:Bool)(d:List UInt8)(e:Int)(o:EntN)(hs:s.length≤2000)(b:Nat)(H:Heap)(hb:H.objs b=some (Wk l ⟨s,neg,d,e,o⟩)):ACall prog 227 [.ptr (some ⟨b,0,none⟩)] H (λy H'=>y= .str (acC s)∧H'=H.set b (Wk l ⟨abI s,neg,d,e,o⟩)):=bvH l ⟨s,neg,d,e,o⟩ hs b H hb
theorem rsignW(l:Loc)(s:List UInt8)(neg:Bool)(d:List UInt8)(e:Int)(o:EntN)(hs:s.length≤2000)(b:Nat)(H:Heap)(hb:H.objs b=some (Wk l ⟨s,neg,d,e,o⟩)):ACall prog 102 [.ptr (some ⟨b,0,none⟩)] H (λy H'=>(∃g,y= .tuple [.bool g,.bool (yE l s).2])∧H'=H.set b (Wk l ⟨(yE l s).1,neg,d,e,o⟩)):=biD l ⟨s,neg,d,e,o⟩ hs b H hb
end
end Go.Proofs.YtmmgbnolccpjoaaGreatDoor
