import Derived.Test.YteedncdcbgplfaaGreatDoorP1
set_option maxHeartbeats 1000000
namespace Go.Proofs.YteedncdcbgplfaaGreatDoor
open Go.Proofs.Tryz
open Go Go.RowKit
variable{n x y:Nat}{neg:Bool}
section
set_option maxRecDepth 100000
theorem eqIn3(d:Nat)(a b c a2 b2 c2:Int)(w:World):(Op.equalIn (d+2) 324 (.agg #[.int .u64 a,.int .u64 b,.int .u64 c]) (.agg #[.int .u64 a2,.int .u64 b2,.int .u64 c2])).run prog w= .ok (decide (a=a2∧b=b2∧c=c2)) w:=by
 have u3:=U25;have a3:=G25;have z3:=Z25;have hS:prog.underlying 324=some (.struct (prog.fieldsOf 324)):=by kernel_rfl
 have hp:prog.stoodInHeld 324=false:=by kernel_rfl
 rw[run_equalIn_agg w (d+1) 324 _ _ hS hp];simp only[Program.fieldsOf,U324]
 go_simp
 by_cases h1:a=a2<;>by_cases h2:b=b2<;>by_cases h3:c=c2<;>simp[h1,h2,h3]
theorem eq3(a b c a2 b2 c2:Int):atJ prog 324 [.int .u64 a,.int .u64 b,.int .u64 c] [.int .u64 a2,.int .u64 b2,.int .u64 c2] (decide (a=a2∧b=b2∧c=c2)):=λg xs ys w h k=>by
 rw[h.plain [.int .u64 a,.int .u64 b,.int .u64 c] rfl,k.plain [.int .u64 a2,.int .u64 b2,.int .u64 c2] rfl];exact eqIn3 9998 a b c a2 b2 c2 w
section
variable{P:Program}{env:Env}{dst:Option Tmp}{ty:TypeId}{pos:String}{af:Array Edge}{gd:Option (Nat×Bool)}
theorem APure.as{op:Oper}{a b:AV}(h:a=b)(p:APure P op env a):APure P op env b:=h▸p
end
theorem ajK(v:Nat)(n:Nat)(hn:n<64)(q:Int)(hq:q=(n:Int)):Fn 296 [u2 v,.int .i64 q] (u2 (v*2^n%M2)):=by
 intro H;subst hq;have hh:=agU v;have hb1:v%M1/2^(64-n)<18446744073709551616:=bA (dP _ _) (agU v);have hb2:v/M1*2^n%18446744073709551616<18446744073709551616:=bR _ aC;have hor:(v/M1*2^n%18446744073709551616|||v%M1/2^(64-n))=v/M1*2^n%M1+v%M1/2^(64-n):=ckJ (ciJ v (dK hn)) (dK hn);refine .of_body func296 rfl ntmps296 results296 rfl ?_;iterate 3 refine AX ?_
 refine .al zr220 (λb4 hb4=>?_);iterate 11 refine AX ?_
 rw[show anA (n:Int) 0=(n:Int) by simp only[anA];split<;>omega];iterate 5 refine AX ?_
 refine .cond_false (tm rfl) (by exact aS aA) ?_;iterate 3 refine AX ?_
 refine .draw [(0,true),(1,true),(2,true),(3,true),(4,true),(5,true),(6,true),(7,true),(8,true),(9,true),(10,true),(11,true),(12,true),(13,true),(14,true),(15,false)] rfl aE ?_;refine .p rfl rfl (zA U220 rfl Z25 (tm rfl)) ?_;iterate 3 refine AX ?_
 refine .p rfl rfl (zA U220 rfl Z25 (tm rfl)) ?_;iterate 2 refine AX ?_
 refine .p rfl rfl (.as (b:=.int .i64 ((64-n:Nat):Int)) (by congr 1;omega) (qK zJ (tm rfl) aA)) ?_;iterate 2 refine AX ?_
 refine .p rfl rfl (zA U220 rfl Z25 (tm rfl)) ?_;iterate 3 refine AX ?_
 refine .p rfl rfl (yU zr220 pl220 (.cons (tm rfl) (.inl rfl) (.cons (tm rfl) (.inl rfl) .nil)) rfl) (.s0 rfl (zL Z220 (tm rfl) (tm rfl) rfl rfl (.inr ⟨_,rfl⟩) (oS _ _ _) (lB rfl)) ?_);rintro _ _ ⟨rfl,hH⟩;obtain rfl:=hH.symm;try first|rw[sS]|rw[sU aB]
 iterate 2 refine AX ?_
 refine .frz (t:=4) rfl (hb4) ?_;iterate 2 refine AX ?_
 refine⟨?_,rfl⟩;simp only[yT,u2,w2];rw[cjR (dK hn),cdK,←hor];rfl
def ceT(v n b2 b4:Nat)(H:Heap):Nat→Env→Heap→Prop:=λk env H1=>∃j:Nat,64*j≤n∧env=[(1,.int .i64 ((n-64*j:Nat):Int)),(2,.ptr (some ⟨b2,0,none⟩)),(4,.ptr (some ⟨b4,0,none⟩)),(6,.bool (decide (v%2^(64*j)≠0)))]∧H1=(H.set b2 (.box 324 [.int .u64 (((v/2^(64*j))/M2:Nat):Int),.int .u64 (((v/2^(64*j))/M1%M1:Nat):Int),.int .u64 (((v/2^(64*j))%M1:Nat):Int)])).set b4 (.box 324 [.int .u64 0,.int .u64 0,.int .u64 0])∧k=n-64*j
theorem bdQ(v:Nat)(hv:v<M3)(n:Nat)(hn:n≤1000000000)(q:Int)(hq:q=(n:Int)):Fn 319 [u3 v,.int .i64 q] (.tuple [u3 (v/2^n),.bool (decide (v%2^n≠0))]):=by
 intro H;subst hq;refine .of_body func319 rfl ntmps319 results319 rfl ?_;iterate 2 refine AX ?_
 refine .s rfl (ajM (tm rfl) (.inr ⟨_,rfl⟩)) ?_;rintro _ _ ⟨b2,hb2,rfl,hH⟩;obtain rfl:=hH.symm;refine .al zr324 (λb4 hb4=>?_);have hn2_4:=Heap.ne_of (oS _ _ _) hb4;iterate 11 refine AX ?_
 rw[show anA (n:Int) 0=(n:Int) by simp only[anA];split<;>omega];iterate 6 refine AX ?_
 rw[show(u3 v).cells=[.int .u64 ((v/2^(64*0)/M2:Nat):Int),.int .u64 ((v/2^(64*0)/M1%M1:Nat):Int),.int .u64 ((v/2^(64*0)%M1:Nat):Int)] by rw[show v/2^(64*0)=v by simp];rfl];refine .loopW (ceT v n b2 b4 H) (n) ⟨0,by omega,rfl,rfl,rfl⟩ (zK rfl (zK rfl (zK rfl (zR rfl (by simp[Nat.mod_one]) yF)))) (hRa _) ?_;rintro _ _ _ ⟨j,hj,rfl,rfl,hk⟩;have hvj:(v/2^(64*j))<M3:=bA (dP _ _) hv;refine AX ?_;refine .seqTo 15 (.bool (decide ((64:Int)≤((n-64*j:Nat):Int))&& !decide ((v/2^(64*j))=0))) [1,2,4,6] ?_ ?_
 ·iterate 4 refine AX ?_
  refine zD (t:=11) rfl (λhg11=>?_) (λhg11=>?_)
  ·have hh11:=hg11;try simp only[aL]at hh11
   refine .gs rfl rfl rfl aB (qA isAgg324 Z324 (tm rfl) ((oN _ _ aB).trans (oS _ _ _)) (lB rfl)) ?_;rintro _ _ ⟨rfl,hH⟩;obtain rfl:=hH.symm;refine .gp rfl rfl rfl aB (yU zr324 pl324 .nil rfl) ?_;refine .gp rfl rfl rfl aB (bbJ eqGuardType324 (tm rfl) (tm rfl) (eq3 _ _ _ _ _ _)) ?_;iterate 2 refine AX ?_
   exact⟨rfl,zS rfl (by(rw[show decide ((64:Int)≤((n-64*j:Nat):Int))=true from hg11,Bool.true_and];congr 1;exact aQ.2 (bdT hvj))) sX,rfl⟩
  have hh11:=hg11;try simp only[aL]at hh11
  iterate 5 refine AX ?_
  exact⟨rfl,zS rfl (by(rw[show decide ((64:Int)≤((n-64*j:Nat):Int))=false from hg11];rfl)) sX,rfl⟩
 refine .sub [(15,_),(1,_),(2,_),(4,_),(6,_)] sX ?_;refine .cx rfl (λhc15=>?_) (λhc15=>?_)
 ·simp only[bN,fU,aT,aR]at hc15;iterate 3 refine AX ?_
  refine .seqTo 6 (.bool (decide (v%2^(64*(j+1))≠0))) [1,2,4] ?_ ?_
  ·iterate 3 refine AX ?_
   refine zD (t:=17) rfl (λhg17=>?_) (λhg17=>?_)
   ·have hh17:=hg17;try simp only[aL]at hh17
    iterate 6 refine AX ?_
    exact⟨rfl,zS rfl (by(have q:=caS hg17;exact q)) sX,rfl⟩
   have hh17:=hg17;try simp only[aL]at hh17
   refine .gp rfl rfl rfl aB (zC U324 rfl Z25 (tm rfl)) (.gs rfl rfl rfl aB (zM G25 (tm rfl) ((oN _ _ aB).trans (oS _ _ _)) rfl) ?_);rintro _ _ ⟨rfl,hH⟩;obtain rfl:=hH.symm;iterate 4 refine AM ?_
   exact⟨rfl,zS rfl (by(have q:=caT hg17;exact q)) sX,rfl⟩
  refine .sub [(6,_),(1,_),(2,_),(4,_)] sX ?_;iterate 2 refine AX ?_
  refine .p rfl (zC U324 rfl Z25 (tm rfl)) ?_;refine AX ?_;refine .p rfl (zC U324 rfl Z25 (tm rfl)) ?_;refine AX ?_;refine .p rfl (yU zr324 pl324 (.cons (yB 0) (.inl rfl) (.cons (tm rfl) (.inl rfl) (.cons (tm rfl) (.inl rfl) .nil))) rfl) ?_;iterate 5 refine AX ?_
  refine .p rfl (.as (b:=.int .i64 ((n-64*(j+1):Nat):Int)) (by congr 1;omega) (qK (tm rfl) zJ aA)) ?_;iterate 4 refine AX ?_
  have hd64:=clH hvj;have hvn:v/2^(64*(j+1))=(v/2^(64*j))/M1:=by rw[aiO,cC,←bI];congr 1
  refine Round.mk ⟨j+1,by omega,rfl,rfl,rfl⟩ sX (by rw[hvn,hd64.1,hd64.2];exact hRa _) aA
 simp only[cJ,Bool.not_eq_false',aT,aR]at hc15;iterate 9 refine AX ?_
 refine .p rfl (yU zr324 pl324 .nil rfl) ?_;refine .p rfl (amL eqGuardType324 (tm rfl) (tm rfl) (eq3 _ _ _ _ _ _)) ?_;iterate 2 refine AX ?_
 refine .cx rfl (λhc31=>?_) (λhc31=>?_)
 ·iterate 8 refine AX ?_
  refine .frz (t:=4) rfl (fS hb4 _) ?_;refine .dropb (hb2) ?_;iterate 3 refine AX ?_
  refine⟨?_,rfl⟩;have hv0:(v/2^(64*j))=0:=(bdT hvj).1 (by simpa using hc31);have hlt:v<2^(64*j):=by rcases Nat.div_eq_zero_iff.1 hv0 with h|h;exact absurd h (Nat.ne_of_gt (bL aC));exact h
  have hpn:v<2^n:=bQ hlt (bB aC hj);rw[bH hlt,bH hpn,cD hpn,hv0];rfl
 have hv1:¬(v/2^(64*j))=0:=λh=>hc31 ((bdT hvj).2 h);have hk64:n-64*j<64:=by omega
 clear hv1;have hr1:(v/2^(64*j))%M1<18446744073709551616:=agU _;have hr2:(v/2^(64*j))/M1%M1<18446744073709551616:=agU _;have hr3:(v/2^(64*j))/M2<18446744073709551616:=bkA hvj;have hr4:(v/2^(64*j))%M1/2^(n-64*j)<18446744073709551616:=bA (dP _ _) hr1;have hr5:(v/2^(64*j))/M1%M1/2^(n-64*j)<18446744073709551616:=bA (dP _ _) hr2;have hr6:1*2^(n-64*j)-1<18446744073709551616:=bA (Nat.sub_le _ _) (aqP hk64);rw[Heap.set_comm hn2_4];refine .frz (t:=2) rfl ((oN _ _ hn2_4).trans hb2) ?_;have hb4:=(oN H _ hn2_4.symm).symm.trans hb4;iterate 2 refine AX ?_
 refine .seqTo 6 (.bool (decide (v%2^n≠0))) [1,2,4] ?_ ?_
 ·refine .draw [(0,true),(1,true),(2,true),(3,true),(4,true),(5,true),(6,true),(7,true),(8,true),(9,true),(10,true)] rfl aE ?_;iterate 2 refine AX ?_
  refine bhB (t:=35) rfl (λhg35=>?_) (λhg35=>?_)
  ·have hh35:=hg35;try simp only[aL]at hh35
   iterate 10 refine AX ?_
   exact⟨rfl,zS rfl (by(have q:=chM hj hg35;exact q)) sX,rfl⟩
  have hh35:=hg35;try simp only[aL]at hh35
  refine .gp rfl rfl rfl rfl aB (zA U324 rfl Z25 (tm rfl)) ?_;iterate 2 refine AX ?_
  refine .gp rfl rfl rfl rfl aB (qZ (yB 1) (tm rfl) aA (by exact aqP hk64)) (.gp rfl rfl rfl rfl aB (afT (tm rfl) (yB 1) (bnI _) (by(exact bQ (aqP hk64) aC))) (.gp rfl rfl rfl rfl aB (adQ (tm rfl) (tm rfl) aB aB) ?_));iterate 4 refine AM ?_
  exact⟨rfl,zS rfl (by(have q:=chN hj aA hg35;exact q)) sX,rfl⟩
 refine .sub [(6,_),(1,_),(2,_),(4,_)] sX ?_;refine AX ?_;refine .draw [(0,true),(1,true),(2,true),(3,true),(4,true),(5,true),(6,true),(7,true),(8,true),(9,true),(10,true),(11,true),(12,true),(13,true),(14,true),(15,true),(16,true),(17,true),(18,true),(19,true),(20,true),(21,true),(22,true),(23,true),(24,true),(25,true),(26,false),(27,true)] rfl aE ?_;refine .p rfl rfl (zA U324 rfl Z25 (tm rfl)) ?_;iterate 3 refine AX ?_
 refine .p rfl rfl (zA U324 rfl Z25 (tm rfl)) ?_;iterate 3 refine AX ?_
 refine .p rfl rfl (zA U324 rfl Z25 (tm rfl)) ?_;iterate 2 refine AX ?_
 refine .p rfl rfl (.as (b:=.int .i64 ((64-(n-64*j):Nat):Int)) (by congr 1;omega) (qK zJ (tm rfl) aA)) ?_;iterate 2 refine AX ?_
 refine .p rfl rfl (zA U324 rfl Z25 (tm rfl)) ?_;iterate 3 refine AX ?_
 refine .p rfl rfl (zA U324 rfl Z25 (tm rfl)) ?_;iterate 2 refine AX ?_
 refine .p rfl rfl (.as (b:=.int .i64 ((64-(n-64*j):Nat):Int)) (by congr 1;omega) (qK zJ (tm rfl) aA)) ?_;iterate 2 refine AX ?_
 refine .p rfl rfl (yU zr324 pl324 (.cons (tm rfl) (.inl rfl) (.cons (tm rfl) (.inl rfl) (.cons (tm rfl) (.inl rfl) .nil))) rfl) ?_;refine AX ?_;refine .s0 rfl (zL Z324 (tm rfl) (tm rfl) rfl rfl (.inr ⟨_,rfl⟩) (oS _ _ _) (lB rfl)) ?_;rintro _ _ ⟨rfl,hH⟩;obtain rfl:=hH.symm;try first|rw[sS]|rw[sU aB]
 iterate 3 refine AX ?_
 refine .frz (t:=4) rfl (hb4) ?_;iterate 2 refine AX ?_
 refine⟨?_,rfl⟩;have hvn2:v/2^n=(v/2^(64*j))/2^(n-64*j):=by rw[cC,←bI,show 64*j+(n-64*j)=n by omega]
 rw[hvn2];unfold u3;rw[ciH (v/2^(64*j)) (n-64*j),cbW (v:=(v/2^(64*j))) (k:=n-64*j) aA,ciG (v:=(v/2^(64*j))) (k:=n-64*j) aA];rfl
end
section
open Go Go.RowKit
set_option maxRecDepth 100000
section
variable{P:Program}{n:Fr}{ops:Array Oper}{Q:Exit→Env→Heap→Prop}{l:List Oper}{env:Env}{H:Heap}{ty:TypeId}{pos:String}{af:Array Edge}
theorem AList.ext{d:Tmp}{f:FuncId}{e:Array Value→Sem Value}{os:Array Operand}{xs:List AV}{ts:Array TypeId}{r:AV}(hd:Nat.blt d n.size=true)(he:IsExt P f e)(ha:Evs env os.toList xs)
  (h:∀g vs w,RelVs g xs vs→∃v,(e vs.toArray).run P w= .ok v w∧RelV g r v)(k:AList P n ops Q l ((d,r)::env) H):AList P n ops Q (⟨some d,.call {callee:=.value (.func f),args:=os,argTypes:=ts},ty,pos,af,none⟩::l) env H:=by
 have q:=byE (H:=H) (dst:=some d) (ty:=ty) (pos:=pos) (af:=af) (gd:=none) (ts:=ts) he ha h;refine .s hd q ?_;rintro _ _ ⟨rfl,hH⟩;obtain rfl:=hH.symm;exact k
end
theorem bjO(hx:x<M1)(hy:y<M1):x*y/M1+1<M1:=by
 have h:x*y≤18446744073709551615*18446744073709551615:=eN (Nat.le_sub_one_of_lt hx) (Nat.le_sub_one_of_lt hy);have h2:x*y/M1≤18446744073709551615*18446744073709551615/M1:=Nat.div_le_div_right h;have h3:18446744073709551615*18446744073709551615/M1+1<M1:=by decide+kernel
 exact bA (Nat.add_le_add_right h2 1) h3
theorem ccL(hx:x+1<M1)(hy:y<M1):(x+y)/M1≤1:=by unfold M1 at *;omega
theorem aoC:∀g vs w,RelVs g [.int .u64 (x:Int),.int .u64 (y:Int),.int .u64 ((0:Nat):Int)] vs→∃v,(add64Entry vs.toArray).run prog w= .ok v w∧RelV g (.tuple [.int .u64 (((x+y)%18446744073709551616:Nat):Int),.int .u64 (((x+y)/18446744073709551616:Nat):Int)]) v:=by
 have:=@bcS x y 0 aC;rw[cA]at this;exact this
theorem blE(v:Nat)(hv:v<M2)(n:Nat)(hn:n≤1000000000)(q:Int)(hq:q=(n:Int)):Fn 297 [u2 v,.int .i64 q] (.tuple [u2 (v/2^n),.bool (decide (v%2^n≠0))]):=by
 intro H;refine .of_body func297 rfl ntmps297 results297 rfl ?_;iterate 3 refine AX ?_
 refine .al zr220 (λb4 hb4=>?_);iterate 5 refine AX ?_
 refine .p rfl (zA U220 rfl Z25 (tm rfl)) ?_;refine AX ?_;refine .p rfl (zA U220 rfl Z25 (tm rfl)) ?_;refine AX ?_;refine .p rfl (yU zr324 pl324 (.cons (yB 0) (.inl rfl) (.cons (tm rfl) (.inl rfl) (.cons (tm rfl) (.inl rfl) .nil))) rfl) ?_;refine AX ?_;refine .cl rfl call319 (evs2 rfl rfl) ((by have:=bdQ v (eG hv aE) n hn q hq;rw[cjL hv]at this;exact this _)) ?_;iterate 3 refine AX ?_
 refine .al zr324 (λb6 hb6=>?_);have hn4_6:=Heap.ne_of (oS _ _ _) hb6;iterate 4 refine AX ?_
 refine .frz (t:=6) rfl (hb6) ?_;iterate 3 refine AX ?_
 refine .cl rfl call272 (evs1 rfl) (auI _ _ _ _) ?_;iterate 5 refine AX ?_
 refine .frz (t:=4) rfl (hb4) ?_;iterate 2 refine AX ?_
 refine⟨?_,rfl⟩;simp only[yT];rw[ceK,bH (bA (dP _ _) hv)];rfl
theorem blG(a b:Nat)(ha:a<M2)(hb:b<M2):Fn 271 [u2 a,u2 b] (.tuple [u2 ((a+b)%M2),.bool (decide (M2≤a+b))]):=by
 intro H;have ha1:=bvD ha;have hb1:=bvD hb;have ha2:=agU a;have hb2:=agU b;have hc:(a%M1+b%M1)/18446744073709551616≤1:=cmO;generalize hce:(a%M1+b%M1)/18446744073709551616=c at hc;refine .of_body func271 rfl ntmps271 results271 rfl ?_;iterate 4 refine AX ?_
 refine .al zr220 (λb4 hb4=>?_);iterate 5 refine AX ?_
 refine .p rfl (zA U220 rfl Z25 (tm rfl)) ?_;refine AX ?_;refine .p rfl (zA U220 rfl Z25 (tm rfl)) ?_;refine AX ?_;refine .ext rfl ext302 (.cons (tm rfl) (.cons (tm rfl) (.cons (yB 0) .nil))) (aoC) ?_;iterate 8 refine AX ?_
 rw[hce];refine AX ?_;refine .p rfl (zA U220 rfl Z25 (tm rfl)) ?_;refine AX ?_;refine .p rfl (zA U220 rfl Z25 (tm rfl)) ?_;iterate 2 refine AX ?_
 refine .ext rfl ext302 (evs3 rfl rfl rfl) (bcS (x:=a/M1) (y:=b/M1) (c:=c) hc) ?_;iterate 11 refine AX ?_
 refine .p rfl (yU zr220 pl220 (.cons (tm rfl) (.inl rfl) (.cons (tm rfl) (.inl rfl) .nil)) rfl) ?_;iterate 6 refine AM ?_
 refine .frz (t:=4) rfl (hb4) ?_;iterate 2 refine AX ?_
 refine⟨?_,rfl⟩;have e1:=@cdB a b;have e2:=@clR a b;have e3:=@clQ a b;rw[show(a%M1+b%M1)/M1=c from hce]at e1 e2;rw[←e1];unfold u2 w2;rw[←e2,←e3];rfl
theorem azS(a x:Nat)(ha:a<M2)(hx:x<M1):Fn 269 [u2 a,.int .u64 (x:Int)] (u3 (a*x)):=by
 intro H;have ha1:=bvD ha;have ha2:=agU a;have hm1:=bjO ha1 hx;have hm2:=bjO ha2 hx;have hm3:=agU (a/M1*x);have hcl:=ccL hm2 hm3;have hfit:a/M1*x/18446744073709551616+(a%M1*x/18446744073709551616+a/M1*x%18446744073709551616)/18446744073709551616<18446744073709551616:=bA (Nat.add_le_add_left hcl _) hm1;refine .of_body func269 rfl ntmps269 results269 rfl ?_;iterate 3 refine AX ?_
 refine .al zr324 (λb4 hb4=>?_);iterate 3 refine AX ?_
 refine .draw2 [(0,true),(1,true),(2,true),(3,true),(4,true),(5,true),(6,true),(7,true)] 8 9 [(9,false),(10,false),(11,false)] [(8,false),(10,false),(11,false)] rfl aE ?_;refine .p rfl rfl (zA U220 rfl Z25 (tm rfl)) ?_;iterate 2 refine AX ?_
 refine .f rfl rfl (λ_=>zB call267 (evs2 rfl rfl) (anM _ _ aB aB _)) ?_;refine .p rfl rfl (zA U220 rfl Z25 (tm rfl)) ?_;iterate 2 refine AX ?_
 refine .f rfl rfl (λ_=>zB call267 (evs2 rfl rfl) (anM _ _ aB aB _)) ?_;refine AX ?_;refine⟨?_,?_⟩
 ·refine XTwo.s rfl rfl (adL zr220) ?_;rintro _ _ ⟨b5,hb5,rfl,hH⟩;obtain rfl:=hH.symm;have hn4_5:=Heap.ne_of (oS _ _ _) hb5;refine .s rfl rfl (adL zr220) ?_;rintro _ _ ⟨b6,hb6,rfl,hH⟩;obtain rfl:=hH.symm;have hn4_6:=Heap.ne_of (oS _ _ _) hb6;have hn5_6:=Heap.ne_of (oS _ _ _) hb6;refine .s0 rfl (zL Z220 (tm rfl) (tm rfl) rfl rfl (.inr ⟨_,rfl⟩) ((oN _ _ aB).trans (oS _ _ _)) (lB rfl)) ?_;rintro _ _ ⟨rfl,hH⟩;obtain rfl:=hH.symm;try first|rw[sS]|rw[sU aB]
  refine .s0 rfl (zL Z220 (tm rfl) (tm rfl) rfl rfl (.inr ⟨_,rfl⟩) (oS _ _ _) (lB rfl)) ?_;rintro _ _ ⟨rfl,hH⟩;obtain rfl:=hH.symm;try first|rw[sS]|rw[sU aB]
  iterate 2 refine AX ?_
  refine .frz (t:=6) rfl (fS hb6 _) ?_;refine .frz (t:=5) rfl (hb5) ?_;iterate 2 refine AX ?_
  refine .p rfl (zA U220 rfl Z25 (tm rfl)) ?_;refine AX ?_;refine .p rfl (zA U220 rfl Z25 (tm rfl)) ?_;refine AX ?_;refine .ext rfl ext302 (.cons (tm rfl) (.cons (tm rfl) (.cons (yB 0) .nil))) (aoC) ?_;iterate 9 refine AX ?_
  refine .p rfl (zA U220 rfl Z25 (tm rfl)) ?_;iterate 2 refine AX ?_
  refine .p rfl (qF (tm rfl) (tm rfl) (hfit)) ?_;refine AX ?_;refine .p rfl (zA U220 rfl Z25 (tm rfl)) ?_;refine AX ?_;refine .p rfl (yU zr324 pl324 (.cons (tm rfl) (.inl rfl) (.cons (tm rfl) (.inl rfl) (.cons (tm rfl) (.inl rfl) .nil))) rfl) ?_;iterate 3 refine AX ?_
  refine .frz (t:=4) rfl (hb4) ?_;iterate 2 refine AX ?_
  refine⟨?_,rfl⟩;obtain⟨e1,e2,e3⟩:=aqI a x;unfold u3 w3;rw[e1,e2,e3];rfl
 refine XTwo.s rfl rfl (adL zr220) ?_;rintro _ _ ⟨b6,hb6,rfl,hH⟩;obtain rfl:=hH.symm;have hn4_6:=Heap.ne_of (oS _ _ _) hb6;refine .s rfl rfl (adL zr220) ?_;rintro _ _ ⟨b5,hb5,rfl,hH⟩;obtain rfl:=hH.symm;have hn4_5:=Heap.ne_of (oS _ _ _) hb5;have hn6_5:=Heap.ne_of (oS _ _ _) hb5;refine .s0 rfl (zL Z220 (tm rfl) (tm rfl) rfl rfl (.inr ⟨_,rfl⟩) (oS _ _ _) (lB rfl)) ?_;rintro _ _ ⟨rfl,hH⟩;obtain rfl:=hH.symm;try first|rw[sS]|rw[sU aB]
 refine .s0 rfl (zL Z220 (tm rfl) (tm rfl) rfl rfl (.inr ⟨_,rfl⟩) ((oN _ _ aB).trans (oS _ _ _)) (lB rfl)) ?_;rintro _ _ ⟨rfl,hH⟩;obtain rfl:=hH.symm;try first|rw[sS]|rw[sU aB]
 iterate 2 refine AX ?_
 refine .frz (t:=5) rfl (fS hb5 _) ?_;refine .frz (t:=6) rfl (hb6) ?_;iterate 2 refine AX ?_
 refine .p rfl (zA U220 rfl Z25 (tm rfl)) ?_;refine AX ?_;refine .p rfl (zA U220 rfl Z25 (tm rfl)) ?_;refine AX ?_;refine .ext rfl ext302 (.cons (tm rfl) (.cons (tm rfl) (.cons (yB 0) .nil))) (aoC) ?_;iterate 9 refine AX ?_
 refine .p rfl (zA U220 rfl Z25 (tm rfl)) ?_;iterate 2 refine AX ?_
 refine .p rfl (qF (tm rfl) (tm rfl) (hfit)) ?_;refine AX ?_;refine .p rfl (zA U220 rfl Z25 (tm rfl)) ?_;refine AX ?_;refine .p rfl (yU zr324 pl324 (.cons (tm rfl) (.inl rfl) (.cons (tm rfl) (.inl rfl) (.cons (tm rfl) (.inl rfl) .nil))) rfl) ?_;iterate 3 refine AX ?_
 refine .frz (t:=4) rfl (hb4) ?_;iterate 2 refine AX ?_
 refine⟨?_,rfl⟩;obtain⟨e1,e2,e3⟩:=aqI a x;unfold u3 w3;rw[e1,e2,e3];rfl
end
section
open Go Go.RowKit
set_option maxRecDepth 100000
theorem blen0{n:Nat}:((yN n:Nat):Int)=0↔n=0:=by
 have h:=@abO n 0;rw[eA]at h;omega
def boP(n:Nat)(e:Int):Bool:=decide (n=0∨(e< -10000∧e+yN n< -2000)∨2000<e)
def cbT(neg:Bool)(n:Nat)(e:Int):Nat:=if n=0∨(e< -10000∧e+yN n< -2000)then abA neg else if 2000<e then abA neg+anL else 0
theorem ceR{e:Int}(h:n=0∨(e< -10000∧e+yN n< -2000)):cbT neg n e=abA neg∧boP n e=true:=by
 unfold cbT boP;exact⟨aN h,aU aA⟩
theorem ceS{e:Int}(h:¬(n=0∨(e< -10000∧e+yN n< -2000)))(h2:2000<e):cbT neg n e=abA neg+anL∧boP n e=true:=by
 unfold cbT boP;exact⟨by rw[aM h,aN h2],aU aA⟩
theorem ceQ{e:Int}(h:¬(n=0∨(e< -10000∧e+yN n< -2000)))(h2:¬2000<e):cbT neg n e=0∧boP n e=false:=by
 unfold cbT boP;exact⟨by rw[aM h,aM h2],aS aA⟩
theorem cbS{e:Int}{more:Bool}(h:boP n e=true):yD neg n e more=cbT neg n e:=by
 have h:=of_decide_eq_true h;unfold yD cbT;split
 ·rfl
 rw[aK,aK]
theorem bcR{e:Int}{more:Bool}(h:boP n e=false):0<n∧e≤2000∧ -110000≤e+yN n∧yD neg n e more=bfV neg (abX n e more) (yC n e):=by
 have h:=of_decide_eq_false h;refine⟨by omega,by omega,by omega,?_⟩;unfold yD;rw[aJ,aJ]
def anY(m:Nat):Nat:=if m=9007199254740992 then 4503599627370496 else m
def amP(m:Nat)(u:Int):Int:=if m=9007199254740992 then u+1 else u
theorem bjE(neg:Bool)(m:Nat)(u:Int):bfV neg m u=abA neg+acH (anY m) (amP m u):=by
 unfold bfV anY amP;split<;>rfl
theorem bjF{m:Nat}(h:m≤9007199254740992):anY m≤9007199254740991:=by unfold anY;split<;>omega
theorem bjD(m:Nat)(u:Int):u≤amP m u∧amP m u≤u+1:=by unfold amP;split<;>omega
theorem shl52{k:Nat}(_:k≤100000):k*2^52=k*4503599627370496:=by rw[show(2:Nat)^52=4503599627370496 by decide]
theorem ahJ(neg:Bool)(m:Nat)(hm:m≤9007199254740992)(u:Int)(hu: -1074≤u∧u≤1000000):Fn 318 [.bool neg,.int .u64 (m:Int),.int .i64 u] (.int .u64 ((bfV neg m u:Nat):Int)):=by
 intro H;refine .of_body func318 rfl ntmps318 results318 rfl ?_;iterate 5 refine AM ?_
 refine .seqToL [(1,.int .u64 ((anY m:Nat):Int)),(2,.int .i64 (amP m u))] [0,6] ?_ ?_
 ·iterate 6 refine AM ?_
  refine .cx rfl (λhc8=>?_) (λhc8=>?_)
  ·iterate 3 refine AX ?_
   iterate 3 refine AM ?_
   exact⟨rfl,(zR rfl (by(unfold anY;rw[aK];done)) (zR rfl (by(unfold amP;rw[aK];done)) sX)),rfl⟩
  refine AX ?_;exact⟨rfl,(zR rfl (by(unfold anY;rw[aJ];done)) (zR rfl (by(unfold amP;rw[aJ];done)) sX)),rfl⟩
 refine .sub [(1,_),(2,_),(0,_),(6,_)] sX ?_;rw[bjE];have hA:=bjF hm;have hU:=bjD m u;generalize anY m=m1 at hA ⊢;generalize amP m u=u1 at hU ⊢;refine .seqToL [(1,.int .u64 ((acH m1 u1:Nat):Int))] [2,0,6] ?_ ?_
 ·iterate 6 refine AM ?_
  refine zD (t:=14) rfl (λhg14=>?_) (λhg14=>?_)
  ·have hh14:=hg14;try simp only[aT]at hh14
   iterate 7 refine AX ?_
   refine .cx rfl (λhc11=>?_) (λhc11=>?_)
   ·try simp only[bN,aT]at hc11
    iterate 4 refine AM ?_
    exact⟨rfl,(zR rfl (by unfold acH;first|(rw[aJ,aK];rfl)|(rw[aK];done)|(rw[aJ,aJ,shl52 aA])) sX),rfl⟩
   try simp only[cJ,aR]at hc11
   iterate 7 refine AM ?_
   refine .cx rfl (λhc19=>?_) (λhc19=>?_)
   ·iterate 5 refine AX ?_
    refine .p rfl (.as (b:=.int .u64 (((u1+1074).toNat:Nat):Int)) (by congr 1;omega) (qD U3 U25 (tm rfl) (wrap64 aA aA))) ?_;refine .p rfl (qZ (tm rfl) (yB 52) aA (by rw[shl52 aA];omega)) (.p rfl (qF (tm rfl) (tm rfl) (by(rw[shl52 aA];omega))) ?_);iterate 3 refine AX ?_
    exact⟨rfl,(zR rfl (by unfold acH;first|(rw[aJ,aK];rfl)|(rw[aK];done)|(rw[aJ,aJ,shl52 aA])) sX),rfl⟩
   iterate 2 refine AX ?_
   exact⟨rfl,(zR rfl (by unfold acH;first|(rw[aJ,aK];rfl)|(rw[aK];done)|(rw[aJ,aJ,shl52 aA])) sX),rfl⟩
  have hh14:=hg14;try simp only[aR,Int.not_le]at hh14
  iterate 7 refine AX ?_
  refine .cond_false (tm rfl) aD ?_;iterate 7 refine AM ?_
  refine .cx rfl (λhc19=>?_) (λhc19=>?_)
  ·iterate 5 refine AX ?_
   refine .p rfl (.as (b:=.int .u64 (((u1+1074).toNat:Nat):Int)) (by congr 1;omega) (qD U3 U25 (tm rfl) (wrap64 aA aA))) ?_;refine .p rfl (qZ (tm rfl) (yB 52) aA (by rw[shl52 aA];omega)) (.p rfl (qF (tm rfl) (tm rfl) (by(rw[shl52 aA];omega))) ?_);iterate 3 refine AX ?_
   exact⟨rfl,(zR rfl (by unfold acH;first|(rw[aJ,aK];rfl)|(rw[aK];done)|(rw[aJ,aJ,shl52 aA])) sX),rfl⟩
  iterate 2 refine AX ?_
  exact⟨rfl,(zR rfl (by unfold acH;first|(rw[aJ,aK];rfl)|(rw[aK];done)|(rw[aJ,aJ,shl52 aA])) sX),rfl⟩
 refine .sub [(1,_),(2,_),(0,_),(6,_)] sX ?_;have hM:=bzS (u:=u1) hA;have hM2:acH m1 u1<9223372036854775808:=bA hM aC;iterate 6 refine AX ?_
 refine .cx rfl (λhc29=>?_) (λhc29=>?_)
 ·iterate 2 refine AX ?_
  refine .p rfl (abK (tm rfl) (yB 9223372036854775808) aA aA) ?_;iterate 11 refine AX ?_
  refine⟨?_,rfl⟩;simp only[yT,abA];rw[aN aB,btG hM2]
 iterate 10 refine AX ?_
 refine⟨?_,rfl⟩;simp only[yT,abA];rw[aM aI,bZ]
theorem blJ(n:Nat)(e:Int)(hn:yN n≤100000)(he: -1000000000000000≤e∧e≤1000000000000000):Fn 317 [.int .i64 (yN n:Int),.int .i64 e] (.int .i64 (yC n e)):=by
 intro H;refine .of_body func317 rfl ntmps317 results317 rfl ?_;iterate 17 refine AX ?_
 refine⟨?_,rfl⟩;simp only[yT,yC,anA]<;>(congr 1;split<;>split<;>omega)
theorem bvU(neg:Bool)(n:Nat)(e:Int)(hn:yN n≤100000)(he: -1000000000000000≤e∧e≤1000000000000000):Fn 316 [.bool neg,.int .i64 (yN n:Int),.int .i64 e] (.tuple [.int .u64 ((cbT neg n e:Nat):Int),.bool (boP n e)]):=by
 intro H;have hb0:=@blen0 n;refine .of_body func316 rfl ntmps316 results316 rfl ?_;iterate 11 refine AM ?_
 iterate 2 refine AX ?_
 refine zD (t:=11) rfl (λhg11=>?_) (λhg11=>?_)
 ·have hh11:=hg11;try simp only[aT]at hh11
  iterate 12 refine AX ?_
  refine .cond_true (tm rfl) aD ?_;iterate 3 refine AX ?_
  refine .cl rfl C318 (.cons (tm rfl) (.cons (yB 0) (.cons zJ .nil))) (ahJ _ _ aA _ aA _) ?_;iterate 8 refine AX ?_
  refine⟨?_,rfl⟩;obtain⟨e1,e2⟩:=ceR (neg:=neg) (n:=n) (e:=e) aA;rw[e1,e2];rfl
 have hh11:=hg11;try simp only[aR]at hh11
 iterate 3 refine AX ?_
 refine zD (t:=14) rfl (λhg14=>?_) (λhg14=>?_)
 ·have hh14:=hg14;try simp only[aT]at hh14
  iterate 9 refine AX ?_
  refine .cx rfl (λhc8=>?_) (λhc8=>?_)
  ·iterate 3 refine AX ?_
   refine .cl rfl C318 (.cons (tm rfl) (.cons (yB 0) (.cons zJ .nil))) (ahJ _ _ aA _ aA _) ?_;iterate 8 refine AX ?_
   refine⟨?_,rfl⟩;obtain⟨e1,e2⟩:=ceR (neg:=neg) (n:=n) (e:=e) aA;rw[e1,e2];rfl
  iterate 7 refine AX ?_
  refine .cx rfl (λhc23=>?_) (λhc23=>?_)
  ·iterate 3 refine AX ?_
   refine .cl rfl C318 (.cons (tm rfl) (.cons (yB 4503599627370496) (.cons zJ .nil))) (ahJ _ _ aA _ aA _) ?_;iterate 8 refine AX ?_
   refine⟨?_,rfl⟩;obtain⟨e1,e2⟩:=ceS (neg:=neg) (n:=n) (e:=e) aA aA;rw[e1,e2];rfl
  iterate 11 refine AM ?_
  refine⟨?_,rfl⟩;obtain⟨e1,e2⟩:=ceQ (neg:=neg) (n:=n) (e:=e) aA aA;rw[e1,e2];rfl
 have hh14:=hg14;try simp only[aR,cU]at hh14
 iterate 9 refine AX ?_
 refine .cond_false (tm rfl) aD ?_;iterate 7 refine AX ?_
 refine .cx rfl (λhc23=>?_) (λhc23=>?_)
 ·iterate 3 refine AX ?_
  refine .cl rfl C318 (.cons (tm rfl) (.cons (yB 4503599627370496) (.cons zJ .nil))) (ahJ _ _ aA _ aA _) ?_;iterate 8 refine AX ?_
  refine⟨?_,rfl⟩;obtain⟨e1,e2⟩:=ceS (neg:=neg) (n:=n) (e:=e) aA aA;rw[e1,e2];rfl
 iterate 11 refine AM ?_
 refine⟨?_,rfl⟩;obtain⟨e1,e2⟩:=ceQ (neg:=neg) (n:=n) (e:=e) aA aA;rw[e1,e2];rfl
end
end Go.Proofs.YteedncdcbgplfaaGreatDoor
