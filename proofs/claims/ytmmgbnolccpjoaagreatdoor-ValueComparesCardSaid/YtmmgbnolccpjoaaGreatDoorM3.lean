import Derived.Test.YtmmgbnolccpjoaaGreatDoorVfk
import Derived.Test.YtmmgbnolccpjoaaGreatDoorM2
set_option maxHeartbeats 1000000
namespace Go.Proofs.YtmmgbnolccpjoaaGreatDoor
open Go.Proofs.Tryz
open Go Go.RowKit
section
set_option maxRecDepth 100000
theorem aaB(n:Int):Fn 57 [.int .i64 n] ((yT n).av):=by
 intro H;refine .of_body func57 rfl ntmps57 results57 rfl ?_;iterate 2 refine AX ?_
 refine .al zr24 (λb2 hb2=>?_);iterate 5 refine AX ?_
 refine .p rfl (zX zr24 pl24 (.cons zH (.inl rfl) (.cons (tm rfl) (.inl rfl) .nil)) rfl) ?_;iterate 3 refine AX ?_
 refine .frz (t:=2) rfl (hb2) ?_;iterate 2 refine AX ?_
 exact⟨rfl,rfl⟩
theorem bdI(b:Bool):Fn 70 [.bool b] ((adH b).av):=by
 intro H;refine .of_body func70 rfl ntmps70 results70 rfl ?_;iterate 2 refine AX ?_
 refine .al zr24 (λb2 hb2=>?_);iterate 5 refine AX ?_
 refine .p rfl (zX zr24 pl24 (.cons zH (.inl rfl) (.cons (tm rfl) (.inl rfl) .nil)) rfl) ?_;iterate 3 refine AX ?_
 refine .frz (t:=2) rfl (hb2) ?_;iterate 2 refine AX ?_
 exact⟨rfl,rfl⟩
theorem aaL(x:Nat)(hx:x<18446744073709551616):Fn 58 [.int .u64 (x:Int)] ((ajW x).av):=by
 intro H;refine .of_body func58 rfl ntmps58 results58 rfl ?_;iterate 2 refine AX ?_
 refine .al zr24 (λb2 hb2=>?_);iterate 6 refine AX ?_
 refine .cl rfl C25 (evs1 rfl) (qA _ aB _) ?_;iterate 3 refine AX ?_
 refine .cx rfl (λhc5=>?_) (λhc5=>?_)
 ·iterate 2 refine AX ?_
  refine .cl rfl C57 (.cons zH .nil) (aaB _ _) ?_;iterate 3 refine AX ?_
  refine .frz (t:=2) rfl (hb2) ?_;iterate 3 refine AX ?_
  refine⟨?_,rfl⟩;rw[show ajW x=yT 6 from aJ];rfl
 iterate 5 refine AX ?_
 refine .p rfl (zX zr24 pl24 (.cons zH (.inl rfl) (.cons (tm rfl) (.inl rfl) .nil)) rfl) ?_;iterate 3 refine AX ?_
 refine .frz (t:=2) rfl (hb2) ?_;iterate 2 refine AX ?_
 refine⟨?_,rfl⟩;rw[show ajW x=⟨1,x,false,[],0⟩from aI];rfl
theorem bdH(s:List UInt8)(hs:s.length≤maxLen):Fn 71 [.str s] ((aqB s).av):=by
 intro H;refine .of_body func71 rfl ntmps71 results71 rfl ?_;iterate 2 refine AX ?_
 refine .al zr24 (λb2 hb2=>?_);iterate 10 refine AX ?_
 refine .cx rfl (λhc5=>?_) (λhc5=>?_)
 ·iterate 2 refine AX ?_
  refine .cl rfl C57 (.cons zH .nil) (aaB _ _) ?_;iterate 3 refine AX ?_
  refine .frz (t:=2) rfl (hb2) ?_;iterate 3 refine AX ?_
  refine⟨?_,rfl⟩;rw[show aqB s=yT 3 from aJ];rfl
 iterate 5 refine AX ?_
 refine .p rfl (zX zr24 pl24 (.cons zH (.inl rfl) (.cons (tm rfl) (.inl rfl) .nil)) rfl) ?_;iterate 3 refine AX ?_
 refine .frz (t:=2) rfl (hb2) ?_;iterate 2 refine AX ?_
 refine⟨?_,rfl⟩;rw[show aqB s=⟨3,0,false,s,0⟩from aI];rfl
theorem atH(a b:Val):Fn 49 [a.av,b.av] ((aoB a b).av):=by
 intro H;refine .of_body func49 rfl ntmps49 results49 rfl ?_;iterate 4 refine AX ?_
 refine .al zr24 (λb4 hb4=>?_);iterate 3 refine AX ?_
 refine .seqTo 12 (.bool (decide (a.kind=0∧b.kind≠4))) [2,3,4] ?_ ?_
 ·refine AX ?_;refine .p rfl (zA U24 rfl Z3 (tm rfl)) ?_;iterate 3 refine AX ?_
  refine zC (t:=8) rfl (λhg8=>?_) (λhg8=>?_)
  ·have hh8:=hg8;try simp only[aO]at hh8
   refine .gp rfl rfl rfl aB (zA U24 rfl Z3 (tm rfl)) ?_;iterate 4 refine AX ?_
   exact⟨rfl,zL rfl (by(refine Eq.symm ?_;exact aT.2 aA)) sX,rfl⟩
  have hh8:=hg8;try simp only[aM]at hh8
  iterate 5 refine AX ?_
  exact⟨rfl,zL rfl (by(refine Eq.symm ?_;exact bB aA)) sX,rfl⟩
 refine .sub [(12,_),(2,_),(3,_),(4,_)] sX ?_;refine .cx rfl (λhc12=>?_) (λhc12=>?_)
 ·iterate 2 refine AX ?_
  refine .p rfl (zA U24 rfl Z3 (tm rfl)) ?_;refine AX ?_;refine .p rfl (zX zr24 pl24 (.cons (tm rfl) (.inl rfl) .nil) rfl) ?_;iterate 3 refine AX ?_
  refine .frz (t:=4) rfl (hb4) ?_;iterate 3 refine AX ?_
  refine⟨?_,rfl⟩;unfold aoB;first|(rw[aJ];rfl)|(rw[aI];rfl)
 iterate 8 refine AX ?_
 refine .frz (t:=4) rfl (hb4) ?_;iterate 2 refine AX ?_
 refine⟨?_,rfl⟩;unfold aoB;first|(rw[aJ];rfl)|(rw[aI];rfl)
theorem ahC(v:Val):Fn 50 [v.av] (.int .i64 (bdZ v)):=by
 intro H;refine .of_body func50 rfl ntmps50 results50 rfl ?_;iterate 9 refine AX ?_
 refine .p rfl (zA U24 rfl Z3 (tm rfl)) ?_;iterate 10 refine AX ?_
 refine .cx rfl (λhc5=>?_) (λhc5=>?_)
 ·iterate 9 refine AX ?_
  refine⟨?_,rfl⟩;unfold bdZ;first|(rw[aJ];rfl)|(rw[aI,aJ];rfl)|(rw[aI,aI];rfl)
 iterate 6 refine AX ?_
 refine .cx rfl (λhc7=>?_) (λhc7=>?_)
 ·iterate 9 refine AX ?_
  refine⟨?_,rfl⟩;unfold bdZ;first|(rw[aJ];rfl)|(rw[aI,aJ];rfl)|(rw[aI,aI];rfl)
 iterate 10 refine AX ?_
 refine⟨?_,rfl⟩;unfold bdZ;first|(rw[aJ];rfl)|(rw[aI,aJ];rfl)|(rw[aI,aI];rfl)
theorem adU(less more:Bool):Fn 51 [.bool less,.bool more] (.int .i64 (bdF less more)):=by
 intro H;refine .of_body func51 rfl ntmps51 results51 rfl ?_;iterate 11 refine AX ?_
 refine .cx rfl (λhc5=>?_) (λhc5=>?_)
 ·iterate 8 refine AX ?_
  refine⟨?_,rfl⟩;unfold bdF;first|(rw[aN aB];rfl)|(rw[aL aH,aN aB];rfl)|(rw[aL aH,aL aH];rfl)
 iterate 8 refine AX ?_
 refine .cx rfl (λhc6=>?_) (λhc6=>?_)
 ·iterate 8 refine AX ?_
  refine⟨?_,rfl⟩;unfold bdF;first|(rw[aN aB];rfl)|(rw[aL aH,aN aB];rfl)|(rw[aL aH,aL aH];rfl)
 iterate 9 refine AX ?_
 refine⟨?_,rfl⟩;unfold bdF;first|(rw[aN aB];rfl)|(rw[aL aH,aN aB];rfl)|(rw[aL aH,aL aH];rfl)
theorem bjW:∀a b:List UInt8,Op.bytesLess a b=decide (Lib.compareBytes a b<0)
 | [],[]=>rfl
 |_::_,[]=>rfl
 | [],_::_=>rfl
 |x::a,y::b=>by
  rw[Op.bytesLess,bjW a b,Lib.compareBytes];by_cases h:x<y
  ·simp[h]
  by_cases k:y<x
  ·have:¬x=y:=λe=>by subst e;exact h k
   simp[h,k,this]
  have:x=y:=UInt8.le_antisymm (UInt8.not_lt.1 k) (UInt8.not_lt.1 h);subst this;simp[h]
theorem bzN:∀a b:List UInt8,Lib.compareBytes a b=0↔a=b
 | [],[]=>by simp[Lib.compareBytes]
 |_::_,[]=>by simp[Lib.compareBytes]
 | [],_::_=>by simp[Lib.compareBytes]
 |x::a,y::b=>by
  rw[Lib.compareBytes];by_cases h:x<y
  ·have:¬x=y:=λe=>by subst e;exact UInt8.lt_irrefl _ h
   simp[h,this]
  by_cases k:y<x
  ·have:¬x=y:=λe=>by subst e;exact h k
   simp[h,k,this]
  have:x=y:=UInt8.le_antisymm (UInt8.not_lt.1 k) (UInt8.not_lt.1 h);subst this;simp[h,bzN a b]
section
variable{P:Program}{dst:Option Tmp}{ty:TypeId}{pos:String}{af:Array Go.Edge}{gd:Option (Nat×Bool)}{env:Env}
theorem bytesL(a:List UInt8):(⟨a.toArray⟩:ByteArray).toList=a:=by rw[ByteArray.toList_eq]
theorem biY{T T':TypeId}{x y:Operand}{m q:List UInt8}(hx:Ev env x (.str m))(hy:Ev env y (.str q)):APure P ⟨dst,.binOp .lss T x y T',ty,pos,af,gd⟩ env (.bool (decide (Lib.compareBytes m q<0))):=by
 intro g n a ka;obtain⟨v,he,hv⟩:=ev1 hx ka;obtain⟨u,hf,hu⟩:=ev1 hy ka;cases hv;cases hu
 exact⟨_,.bool _,λw _=>adM he hf rfl (by rw[binOp_string_lss,bytesL,bytesL,bjW];rfl)⟩
theorem bjB{T T':TypeId}{x y:Operand}{m q:List UInt8}(hx:Ev env x (.str m))(hy:Ev env y (.str q)):APure P ⟨dst,.binOp .gtr T x y T',ty,pos,af,gd⟩ env (.bool (decide (0<Lib.compareBytes m q))):=by
 intro g n a ka;obtain⟨v,he,hv⟩:=ev1 hx ka;obtain⟨u,hf,hu⟩:=ev1 hy ka;cases hv;cases hu
 refine⟨_,.bool _,λw _=>adM he hf rfl ?_⟩;have e:binOp .gtr T (.string ⟨m.toArray⟩) (.string ⟨q.toArray⟩)=pure (.bool !(Op.bytesLess (⟨m.toArray⟩:ByteArray).toList (⟨q.toArray⟩:ByteArray).toList||(⟨m.toArray⟩:ByteArray).toList==(⟨q.toArray⟩:ByteArray).toList)):=by simp[binOp,Op.stringOp]
 rw[e,bytesEq,bytesL,bytesL,bjW];have h1:=bbU m q;have h2:=bzN m q;have e2:(!(decide (Lib.compareBytes m q<0)||decide (m=q)))=decide (0<Lib.compareBytes m q):=by
  rw[←Bool.decide_or,←decide_not];exact aT.2 (by rw[←h2];omega)
 rw[e2];rfl
end
theorem bxR{a b:Val}(ba:a.bits<18446744073709551616)(ta:a.text.length≤1000000):(aoB a b).bits<18446744073709551616∧(aoB a b).text.length≤1000000:=by
 unfold aoB;split
 ·exact⟨by show 0<_;omega,Nat.zero_le _⟩
 exact⟨ba,ta⟩
theorem alU(a b:Val)(ba:a.bits<18446744073709551616)(bb:b.bits<18446744073709551616)(ta:a.text.length≤1000000)(tb:b.text.length≤1000000)(H:Heap):ACall prog 19 [a.av,b.av] H (λz H'=>z= .int .i64 (qI a b)∧H'=H):=by
 refine .of_body func19 rfl ntmps19 results19 rfl ?_;iterate 8 refine AX ?_
 refine .seqTo 18 (.bool (decide (a.kind=4∨b.kind=4))) [2,3,4] ?_ ?_
 ·refine AX ?_;refine .p rfl (zA U24 rfl Z3 (tm rfl)) ?_;iterate 3 refine AX ?_
  refine zC (t:=14) rfl (λhg14=>?_) (λhg14=>?_)
  ·have hh14:=hg14;try simp only[aO]at hh14
   iterate 5 refine AX ?_
   exact⟨rfl,zL rfl (by(refine Eq.symm ?_;exact aY aA)) sX,rfl⟩
  have hh14:=hg14;try simp only[aM]at hh14
  refine .gp rfl rfl rfl aB (zA U24 rfl Z3 (tm rfl)) ?_;iterate 4 refine AX ?_
  exact⟨rfl,zL rfl (by(refine Eq.symm ?_;exact aT.2 aA)) sX,rfl⟩
 refine .sub [(18,_),(2,_),(3,_),(4,_)] sX ?_;refine .cx rfl (λhc18=>?_) (λhc18=>?_)
 ·iterate 8 refine AX ?_
  refine⟨?_,rfl⟩;unfold qI afP;rw[aJ];rfl
 iterate 6 refine AX ?_
 refine .cl rfl call49 (evs2 rfl rfl) (atH _ _ _) ?_;refine .al zr24 (λb5 hb5=>?_);iterate 3 refine AX ?_
 refine .frz (t:=5) rfl (hb5) ?_;iterate 4 refine AX ?_
 refine .cl rfl call49 (evs2 rfl rfl) (atH _ _ _) ?_;obtain⟨hx1,hx2⟩:=bxR (b:=b) ba ta;obtain⟨hy1,hy2⟩:=bxR (b:=a) bb tb;generalize hX:aoB a b=x at *;generalize hY:aoB b a=y at *;refine .al zr24 (λb6 hb6=>?_);iterate 3 refine AX ?_
 refine .frz (t:=6) rfl (hb6) ?_;iterate 2 refine AX ?_
 refine .draw [(0,true),(1,true),(2,true),(3,true),(4,true)] rfl aE ?_;refine AX ?_;refine .f rfl rfl (λ_=>zB C50 (evs1 rfl) (ahC _ _)) ?_;refine AX ?_;refine .f rfl rfl (λ_=>zB C50 (evs1 rfl) (ahC _ _)) ?_;iterate 3 refine AX ?_
 refine .cx rfl (λhc29=>?_) (λhc29=>?_)
 ·refine AX ?_;refine .draw [(0,true),(1,true),(2,true),(3,true),(4,true),(5,true),(6,true)] rfl aE ?_;refine AX ?_;refine .f rfl rfl (λ_=>zB C50 (evs1 rfl) (ahC _ _)) ?_;refine AX ?_;refine .f rfl rfl (λ_=>zB C50 (evs1 rfl) (ahC _ _)) ?_;refine AX ?_;refine .f rfl rfl (λ_=>zB C51 (.cons (tm rfl) (.cons yK .nil)) (adU _ _ _)) ?_;iterate 6 refine AX ?_
  refine⟨?_,rfl⟩;unfold qI afP;rw[aI,hX,hY,aJ];rfl
 iterate 5 refine AX ?_
 refine .p rfl (zA U24 rfl Z3 (tm rfl)) ?_;iterate 10 refine AX ?_
 refine .cx rfl (λhc38=>?_) (λhc38=>?_)
 ·iterate 2 refine AX ?_
  refine .p rfl (zA U24 rfl Z22 (tm rfl)) ?_;refine AX ?_;refine .p rfl (zA U24 rfl Z22 (tm rfl)) ?_;refine AX ?_;refine .cl rfl call52 (evs2 rfl rfl) (atW _ _ aB aB _) ?_;iterate 17 refine AX ?_
  refine⟨?_,rfl⟩;unfold qI afP;rw[aI,hX,hY,aI,aJ];rfl
 iterate 6 refine AX ?_
 refine .cx rfl (λhc49=>?_) (λhc49=>?_)
 ·iterate 2 refine AX ?_
  refine .p rfl (zA U24 rfl Z4 (tm rfl)) ?_;iterate 3 refine AX ?_
  refine zC (t:=54) rfl (λhg54=>?_) (λhg54=>?_)
  ·have hh54:=hg54;try simp only[dX]at hh54
   refine .gp rfl rfl rfl aB (zA U24 rfl Z4 (tm rfl)) ?_;iterate 2 refine AX ?_
   refine .p rfl (zA U24 rfl Z4 (tm rfl)) ?_;iterate 2 refine AX ?_
   refine zC (t:=60) rfl (λhg60=>?_) (λhg60=>?_)
   ·have hh60:=hg60;try simp only[aK]at hh60
    iterate 4 refine AX ?_
    refine .cl rfl C51 (evs2 rfl rfl) (adU _ _ _) ?_;iterate 7 refine AX ?_
    refine⟨?_,rfl⟩;unfold qI afP
    simp_all
    done
   have hh60:=hg60;try simp only[aK]at hh60
   iterate 4 refine AX ?_
   refine .cl rfl C51 (evs2 rfl rfl) (adU _ _ _) ?_;iterate 7 refine AX ?_
   refine⟨?_,rfl⟩;unfold qI afP;rw[aI,hX,hY,aI,aI,aJ,hh60];rfl
  have hh54:=hg54;try simp only[dF]at hh54
  iterate 3 refine AX ?_
  refine .p rfl (zA U24 rfl Z4 (tm rfl)) ?_;iterate 2 refine AX ?_
  refine zC (t:=60) rfl (λhg60=>?_) (λhg60=>?_)
  ·have hh60:=hg60;try simp only[aK]at hh60
   refine .gp rfl rfl rfl aB (zA U24 rfl Z4 (tm rfl)) ?_;iterate 3 refine AX ?_
   refine .cl rfl C51 (evs2 rfl rfl) (adU _ _ _) ?_;iterate 7 refine AX ?_
   refine⟨?_,rfl⟩;unfold qI afP;rw[aI,hX,hY,aI,aI,aJ,hh60];rfl
  have hh60:=hg60;try simp only[aK]at hh60
  iterate 4 refine AX ?_
  refine .cl rfl C51 (evs2 rfl rfl) (adU _ _ _) ?_;iterate 7 refine AX ?_
  refine⟨?_,rfl⟩;unfold qI afP
  simp_all
  done
 iterate 5 refine AX ?_
 refine .p rfl (zA U24 rfl Z9 (tm rfl)) ?_;refine AX ?_;refine .cl rfl call42 (evs1 rfl) (aqM _ aB _) ?_;iterate 5 refine AX ?_
 refine .p rfl (zA U24 rfl Z9 (tm rfl)) ?_;refine AX ?_;refine .cl rfl call42 (evs1 rfl) (aqM _ aB _) ?_;iterate 7 refine AX ?_
 refine .p rfl (biY (tm rfl) (tm rfl)) ?_;iterate 2 refine AX ?_
 refine .p rfl (bjB (tm rfl) (tm rfl)) (.cl rfl C51 (evs2 rfl rfl) (adU _ _ _) ?_);iterate 5 refine AX ?_
 refine⟨?_,rfl⟩;unfold qI afP;rw[aI,hX,hY,aI,aI,aI];rfl
theorem baE(a b:Nat):atP a b<18446744073709551616:=by rw[←bbO];exact bbN a b
theorem cmY:(4636737291354636288:Nat)<18446744073709551616:=by decide
theorem aqS(l:Loc)(hl:l.entOk)(hk:l.ok)(hg:l.grp≠[])(op:List UInt8)(a:Val)(a_b:a.bits<18446744073709551616)(a_t:a.text.length≤1000)(a_n:(yO l a).1<18446744073709551616):Fn 21 [.str op,a.av,rL l] ((ahV l op a).av):=by
 intro H;have hdl:=baE (yO l a).1 4636737291354636288;have hnl:=amQ a_n;have hul:=cmY;refine .of_body func21 rfl ntmps21 results21 rfl ?_;iterate 4 refine AX ?_
 refine .al zr24 (λb6 hb6=>?_);iterate 3 refine AX ?_
 refine .seqTo 15 (.bool (decide (a.kind=4∨op=[43]))) [0,4,5,6] ?_ ?_
 ·refine AX ?_;refine .p rfl (zA U24 rfl Z3 (tm rfl)) ?_;iterate 3 refine AX ?_
  refine zC (t:=12) rfl (λhg12=>?_) (λhg12=>?_)
  ·have hh12:=hg12;try simp only[aO]at hh12
   iterate 4 refine AX ?_
   exact⟨rfl,zL rfl (by(refine Eq.symm ?_;exact aY (.inl aB))) sX,rfl⟩
  have hh12:=hg12;try simp only[aM]at hh12
  iterate 4 refine AX ?_
  exact⟨rfl,zL rfl (by(refine Eq.symm ?_;(refine aT.2 ⟨λq=>?_,λq=>.inr q⟩;rcases q with q|q;exact absurd q aB;exact q))) sX,rfl⟩
 refine .sub [(15,_),(0,_),(4,_),(5,_),(6,_)] sX ?_;refine .cx rfl (λhc15=>?_) (λhc15=>?_)
 ·iterate 6 refine AX ?_
  refine .frz (t:=6) rfl (hb6) ?_;iterate 3 refine AX ?_
  refine⟨?_,rfl⟩;unfold ahV;rw[aN hc15];rfl
 iterate 3 refine AX ?_
 refine .seqTo 22 (.bool (decide (op≠[45]∧op≠[37]))) [0,4,5,6] ?_ ?_
 ·iterate 4 refine AX ?_
  refine zC (t:=19) rfl (λhg19=>?_) (λhg19=>?_)
  ·have hh19:=hg19;try simp only[aM,dX]at hh19
   iterate 4 refine AX ?_
   exact⟨rfl,zL rfl (by(refine Eq.symm ?_;(rw[←decide_not];exact aT.2 ⟨λq=>q.2,λq=>⟨by assumption,q⟩⟩))) sX,rfl⟩
  have hh19:=hg19;try simp only[aO,dF]at hh19
  iterate 4 refine AX ?_
  exact⟨rfl,zL rfl (by(refine Eq.symm ?_;exact bB (λq=>q.1 aB))) sX,rfl⟩
 refine .sub [(22,_),(0,_),(4,_),(5,_),(6,_)] sX ?_;refine .cx rfl (λhc22=>?_) (λhc22=>?_)
 ·iterate 2 refine AX ?_
  refine .cl rfl C57 (.cons zH .nil) (aaB _ _) ?_;iterate 3 refine AX ?_
  refine .frz (t:=6) rfl (hb6) ?_;iterate 3 refine AX ?_
  refine⟨?_,rfl⟩;unfold ahV;rw[aL hc15,aN hc22];rfl
 iterate 6 refine AX ?_
 refine .cl rfl call13 (evs2 rfl rfl) (agO l hl hk hg a a_b a_t _) ?_;iterate 14 refine AX ?_
 refine .cx rfl (λhc31=>?_) (λhc31=>?_)
 ·iterate 3 refine AX ?_
  refine .cl rfl C57 (evs1 rfl) (aaB _ _) ?_;iterate 3 refine AX ?_
  refine .frz (t:=6) rfl (hb6) ?_;iterate 3 refine AX ?_
  refine⟨?_,rfl⟩;unfold ahV;rw[aL hc15,aL hc22,aN (by simpa using hc31)];rfl
 iterate 9 refine AX ?_
 refine .cx rfl (λhc35=>?_) (λhc35=>?_)
 ·iterate 3 refine AX ?_
  refine .cl rfl call59 (.cons (tm rfl) (.cons (zR 4636737291354636288) .nil)) (apF _ _ a_n hul _) (.cl rfl C58 (evs1 rfl) (aaL _ hdl _) ?_);iterate 3 refine AX ?_
  refine .frz (t:=6) rfl (hb6) ?_;iterate 3 refine AX ?_
  refine⟨?_,rfl⟩;unfold ahV;rw[aL hc15,aL hc22,aL (by simpa using hc31),aN (by simpa using hc35)];rfl
 iterate 5 refine AX ?_
 refine .cl rfl call60 (evs1 rfl) (axS _ a_n _) (.cl rfl C58 (evs1 rfl) (aaL _ hnl _) ?_);iterate 3 refine AX ?_
 refine .frz (t:=6) rfl (hb6) ?_;iterate 2 refine AX ?_
 refine⟨?_,rfl⟩;unfold ahV;rw[aL hc15,aL hc22,aL (by simpa using hc31),aL (by simpa using hc35)];rfl
def arL(op:List UInt8)(n:Int):Option Bool:=
 if op=[61]then some (decide (n=0))else if op=[60,62]then some (decide (n≠0))else if op=[60]then some (decide (n<0))else if op=[60,61]then some (decide (n≤0))
 else if op=[62]then some (decide (0<n))else if op=[62,61]then some (decide (0≤n))else none
theorem atQ(op:List UInt8)(n:Int):Fn 69 [.str op,.int .i64 n] (.tuple [.bool ((arL op n).getD false),.bool (arL op n).isSome]):=by
 intro H;refine .of_body func69 rfl ntmps69 results69 rfl ?_;iterate 19 refine AX ?_
 refine .cx rfl (λhc7=>?_) (λhc7=>?_)
 ·iterate 12 refine AX ?_
  refine⟨?_,rfl⟩;unfold arL;rw[aN (by simpa using hc7)];rfl
 iterate 6 refine AX ?_
 refine .cx rfl (λhc11=>?_) (λhc11=>?_)
 ·iterate 12 refine AX ?_
  refine⟨?_,rfl⟩;unfold arL;rw[aL (by simpa using hc7),aN (by simpa using hc11)];rfl
 iterate 6 refine AX ?_
 refine .cx rfl (λhc15=>?_) (λhc15=>?_)
 ·iterate 12 refine AX ?_
  refine⟨?_,rfl⟩;unfold arL;rw[aL (by simpa using hc7),aL (by simpa using hc11),aN (by simpa using hc15)];rfl
 iterate 6 refine AX ?_
 refine .cx rfl (λhc19=>?_) (λhc19=>?_)
 ·iterate 12 refine AX ?_
  refine⟨?_,rfl⟩;unfold arL;rw[aL (by simpa using hc7),aL (by simpa using hc11),aL (by simpa using hc15),aN (by simpa using hc19)];rfl
 iterate 6 refine AX ?_
 refine .cx rfl (λhc23=>?_) (λhc23=>?_)
 ·iterate 12 refine AX ?_
  refine⟨?_,rfl⟩;unfold arL;rw[aL (by simpa using hc7),aL (by simpa using hc11),aL (by simpa using hc15),aL (by simpa using hc19),aN (by simpa using hc23)];rfl
 iterate 6 refine AX ?_
 refine .cx rfl (λhc27=>?_) (λhc27=>?_)
 ·iterate 12 refine AX ?_
  refine⟨?_,rfl⟩;unfold arL;rw[aL (by simpa using hc7),aL (by simpa using hc11),aL (by simpa using hc15),aL (by simpa using hc19),aL (by simpa using hc23),aN (by simpa using hc27)];rfl
 iterate 11 refine AX ?_
 refine⟨?_,rfl⟩;unfold arL;rw[aL (by simpa using hc7),aL (by simpa using hc11),aL (by simpa using hc15),aL (by simpa using hc19),aL (by simpa using hc23),aL (by simpa using hc27)];rfl
theorem cbM(a:Nat)(n:Int):bdK a n<18446744073709551616:=by
 unfold bdK bcN;split
 ·decide
 split
 ·exact baE _ _
 exact apJ _ _ _ _
theorem bvA(a:Nat)(ha:a<18446744073709551616):aqN a<18446744073709551616:=by rw[←bnZ];exact bnY ha
theorem bdJ(x u:Nat)(hx:x<18446744073709551616)(hy:u<18446744073709551616):Fn 76 [.int .u64 (x:Int),.int .u64 (u:Int)] ((awI x u).av):=by
 intro H;have hsl:=bvA x hx;refine .of_body func76 rfl ntmps76 results76 rfl ?_;iterate 2 refine AX ?_
 refine .al zr24 (λb4 hb4=>?_);iterate 5 refine AX ?_
 refine .cl rfl C75 (evs1 rfl) (ahH _ aB _) ?_;iterate 5 refine AX ?_
 refine .seqTo 17 (.bool (decide (afJ x 0=0∧afJ u 0=0))) [0,1,4,5] ?_ ?_
 ·iterate 3 refine AX ?_
  refine zC (t:=13) rfl (λhg13=>?_) (λhg13=>?_)
  ·have hh13:=hg13;try simp only[aO]at hh13
   refine AX ?_;refine .gs rfl rfl rfl aB (zB C75 (evs1 rfl) (ahH _ aB _)) ?_;rintro _ _ ⟨rfl,hH⟩;obtain rfl:=hH.symm;iterate 3 refine AX ?_
   exact⟨rfl,zL rfl (by(refine Eq.symm ?_;exact aT.2 aA)) sX,rfl⟩
  have hh13:=hg13;try simp only[aM]at hh13
  iterate 5 refine AX ?_
  exact⟨rfl,zL rfl (by(refine Eq.symm ?_;exact bB aA)) sX,rfl⟩
 refine .sub [(17,_),(0,_),(1,_),(4,_),(5,_)] sX ?_;refine .cx rfl (λhc17=>?_) (λhc17=>?_)
 ·iterate 2 refine AX ?_
  refine .cl rfl C57 (.cons zH .nil) (aaB _ _) ?_;iterate 3 refine AX ?_
  refine .frz (t:=4) rfl (hb4) ?_;iterate 3 refine AX ?_
  refine⟨?_,rfl⟩;unfold awI;rw[aJ];rfl
 iterate 3 refine AX ?_
 refine .seqTo 24 (.bool (decide (afJ x 0=0∧afJ u 0<0))) [0,1,4] ?_ ?_
 ·iterate 3 refine AX ?_
  refine zC (t:=20) rfl (λhg20=>?_) (λhg20=>?_)
  ·have hh20:=hg20;try simp only[aO]at hh20
   refine AX ?_;refine .gs rfl rfl rfl aB (zB C75 (evs1 rfl) (ahH _ aB _)) ?_;rintro _ _ ⟨rfl,hH⟩;obtain rfl:=hH.symm;iterate 3 refine AX ?_
   exact⟨rfl,zL rfl (by(refine Eq.symm ?_;exact aT.2 aA)) sX,rfl⟩
  have hh20:=hg20;try simp only[aM]at hh20
  iterate 5 refine AX ?_
  exact⟨rfl,zL rfl (by(refine Eq.symm ?_;exact bB aA)) sX,rfl⟩
 refine .sub [(24,_),(0,_),(1,_),(4,_)] sX ?_;refine .cx rfl (λhc24=>?_) (λhc24=>?_)
 ·iterate 2 refine AX ?_
  refine .cl rfl C57 (.cons zH .nil) (aaB _ _) ?_;iterate 3 refine AX ?_
  refine .frz (t:=4) rfl (hb4) ?_;iterate 3 refine AX ?_
  refine⟨?_,rfl⟩;unfold awI;rw[aI,aJ];rfl
 iterate 5 refine AX ?_
 refine .cl rfl call141 (.cons (tm rfl) (.cons zH .nil)) (bqL _ aB _) ?_;iterate 10 refine AX ?_
 refine .cl rfl call142 (evs1 rfl) (bqM _ aB _) ?_;iterate 5 refine AX ?_
 refine .seqTo 33 (.bool (decide (isN u=true∧(awH u).2=0∧ -1000000≤(awH u).1∧(awH u).1≤1000000))) [0,1,4,6] ?_ ?_
 ·iterate 3 refine AX ?_
  refine zC (t:=35) rfl (λhg35=>?_) (λhg35=>?_)
  ·have hh35:=hg35;try simp only[aK]at hh35
   iterate 4 refine AX ?_
   refine zC (t:=39) rfl (λhg39=>?_) (λhg39=>?_)
   ·have hh39:=hg39;try simp only[aO]at hh39
    iterate 4 refine AX ?_
    refine zC (t:=43) rfl (λhg43=>?_) (λhg43=>?_)
    ·have hh43:=hg43;try simp only[aO]at hh43
     iterate 5 refine AX ?_
     exact⟨rfl,zL rfl (by(refine Eq.symm ?_;(refine aT.2 ⟨λq=>by have:=q.2;omega,λq=>⟨by assumption,by omega,by omega,by omega⟩⟩))) sX,rfl⟩
    have hh43:=hg43;try simp only[aM,dO]at hh43
    iterate 5 refine AX ?_
    exact⟨rfl,zL rfl (by(refine Eq.symm ?_;exact bB aA)) sX,rfl⟩
   have hh39:=hg39;try simp only[aM]at hh39
   iterate 9 refine AX ?_
   exact⟨rfl,zL rfl (by(refine Eq.symm ?_;exact bB aA)) sX,rfl⟩
  have hh35:=hg35;try simp only[aK]at hh35
  iterate 13 refine AX ?_
  exact⟨rfl,zL rfl (by(refine Eq.symm ?_;exact bB (λq=>by simp_all))) sX,rfl⟩
 refine .sub [(33,_),(0,_),(1,_),(4,_),(6,_)] sX ?_;refine .cx rfl (λhc33=>?_) (λhc33=>?_)
 ·iterate 4 refine AX ?_
  refine .cl rfl call143 (evs2 rfl rfl) (bqJ x hx _ aA _) (.cl rfl C58 (evs1 rfl) (aaL _ (cbM _ _) _) ?_);iterate 3 refine AX ?_
  refine .frz (t:=4) rfl (hb4) ?_;iterate 4 refine AX ?_
  refine⟨?_,rfl⟩;unfold awI;rw[aI,aI,aN hc33];rfl
 iterate 7 refine AM ?_
 refine .cx rfl (λhc51=>?_) (λhc51=>?_)
 ·iterate 3 refine AX ?_
  refine .cl rfl call144 (evs1 rfl) (biN _ aB _) (.cl rfl C58 (evs1 rfl) (aaL _ hsl _) ?_);iterate 3 refine AX ?_
  refine .frz (t:=4) rfl (hb4) ?_;iterate 4 refine AX ?_
  refine⟨?_,rfl⟩;unfold awI;rw[aI,aI,aL hc33,aJ];rfl
 iterate 5 refine AX ?_
 refine .cl rfl C57 (.cons zH .nil) (aaB _ _) ?_;iterate 3 refine AX ?_
 refine .frz (t:=4) rfl (hb4) ?_;iterate 2 refine AX ?_
 refine⟨?_,rfl⟩;unfold awI;rw[aI,aI,aL hc33,aI];rfl
end
section
open Go Go.RowKit
set_option maxRecDepth 100000
def btQ(l:Loc)(op:List UInt8)(a b:Val):Val:=
 if op=[38]then aqB ((abA l a).1++(abA l b).1)
 else if¬(op=[43]∨op=[45]∨op=[42]∨op=[47]∨op=[94])then yT 5
 else if(yO l a).2≠0 then yT (yO l a).2 else if(yO l b).2≠0 then yT (yO l b).2
 else if op=[43]then ajW (afB (yO l a).1 (yO l b).1)
 else if op=[45]then ajW (afB (yO l a).1 (ajS (yO l b).1))
 else if op=[42]then ajW (baA (yO l a).1 (yO l b).1)
 else if op=[47]then bqF (yO l a).1 (yO l b).1
 else awI (yO l a).1 (yO l b).1
theorem agV{l:Loc}{op:List UInt8}{a b:Val}(ha:¬a.kind=4)(hb:¬b.kind=4):afR l op a b=if(arL op (qI a b)).isSome=true then adH ((arL op (qI a b)).getD false)else btQ l op a b:=by
 unfold afR arL btQ;rw[aL ha,aL hb];by_cases h1:op=[61]
 ·simp[h1]
 by_cases h2:op=[60,62]
 ·simp[h2]
 by_cases h3:op=[60]
 ·simp[h3]
 by_cases h4:op=[60,61]
 ·simp[h4]
 by_cases h5:op=[62]
 ·simp[h5]
 by_cases h6:op=[62,61]
 ·simp[h6]
 simp only[h1,h2,h3,h4,h5,h6,if_false,Option.isSome_none,eT]
theorem bmP{a b:Nat}(ha:a<18446744073709551616)(hb:b<18446744073709551616):afB a b<18446744073709551616:=by rw[←bkD ha hb];exact bkC ha hb
theorem cbU(a b:Nat):baA a b<18446744073709551616:=by rw[←bkB];exact alH a b
theorem anL(l:Loc)(hl:l.entOk)(hk:l.ok)(hg:l.grp≠[])(op:List UInt8)(a:Val)(a_b:a.bits<18446744073709551616)(a_t:a.text.length≤1000)(a_n:(yO l a).1<18446744073709551616)(b:Val)(b_b:b.bits<18446744073709551616)(b_t:b.text.length≤1000)(b_n:(yO l b).1<18446744073709551616)(lx:(abA l a).1.length≤1000000)(ly:(abA l b).1.length≤1000000):Fn 23 [.str op,a.av,b.av,rL l] ((afR l op a b).av):=by
 intro H;have hcat:((abA l a).1++(abA l b).1).length≤maxLen:=by rw[aP,zJ];omega
 have hnl:=amQ b_n;have had:=bmP a_n b_n;have hsb:=bmP a_n hnl;have hml:=cbU (yO l a).1 (yO l b).1;have hdl:=baE (yO l a).1 (yO l b).1;refine .of_body func23 rfl ntmps23 results23 rfl ?_;iterate 5 refine AX ?_
 refine .al zr24 (λb8 hb8=>?_);iterate 5 refine AX ?_
 refine .p rfl (zA U24 rfl Z3 (tm rfl)) ?_;iterate 4 refine AX ?_
 refine .cx rfl (λhc21=>?_) (λhc21=>?_)
 ·iterate 6 refine AX ?_
  refine .frz (t:=8) rfl (hb8) ?_;iterate 3 refine AX ?_
  refine⟨?_,rfl⟩;unfold afR;rw[aN hc21];rfl
 iterate 5 refine AX ?_
 refine .p rfl (zA U24 rfl Z3 (tm rfl)) ?_;iterate 4 refine AX ?_
 refine .cx rfl (λhc25=>?_) (λhc25=>?_)
 ·iterate 6 refine AX ?_
  refine .frz (t:=8) rfl (hb8) ?_;iterate 3 refine AX ?_
  refine⟨?_,rfl⟩;unfold afR;rw[aL hc21,aN hc25];rfl
 iterate 7 refine AX ?_
 refine .cl rfl call19 (evs2 rfl rfl) (alU _ _ aB aB aA aA _) (.cl rfl call69 (evs2 rfl rfl) (atQ _ _ _) ?_);iterate 13 refine AX ?_
 refine .cx rfl (λhc35=>?_) (λhc35=>?_)
 ·iterate 3 refine AX ?_
  refine .cl rfl call70 (evs1 rfl) (bdI _ _) ?_;iterate 3 refine AX ?_
  refine .frz (t:=8) rfl (hb8) ?_;iterate 3 refine AX ?_
  refine⟨?_,rfl⟩;rw[agV hc21 hc25,aN hc35];rfl
 iterate 9 refine AX ?_
 refine .cx rfl (λhc39=>?_) (λhc39=>?_)
 ·iterate 4 refine AX ?_
  refine .cl rfl call17 (evs2 rfl rfl) (anJ l hk a a_b a_t _) ?_;iterate 11 refine AX ?_
  refine .cl rfl call17 (evs2 rfl rfl) (anJ l hk b b_b b_t _) ?_;iterate 11 refine AX ?_
  refine .p rfl (zS (tm rfl) (tm rfl) (by rw[←aP];exact hcat)) (.cl rfl call71 (evs1 rfl) (bdH _ hcat _) ?_);iterate 3 refine AX ?_
  refine .frz (t:=8) rfl (hb8) ?_;iterate 3 refine AX ?_
  refine⟨?_,rfl⟩;rw[agV hc21 hc25,aL (by rw[hc35];decide)];unfold btQ;rw[aN (by simpa using hc39)];rfl
 iterate 3 refine AX ?_
 refine .seqTo 73 (.bool (decide (¬(op=[43]∨op=[45]∨op=[42]∨op=[47]∨op=[94])))) [0,5,6,7,8] ?_ ?_
 ·iterate 4 refine AX ?_
  refine zC (t:=58) rfl (λhg58=>?_) (λhg58=>?_)
  ·have hh58:=hg58;try simp only[aM,dX]at hh58
   iterate 4 refine AX ?_
   refine zC (t:=62) rfl (λhg62=>?_) (λhg62=>?_)
   ·have hh62:=hg62;try simp only[aM,dX]at hh62
    iterate 4 refine AX ?_
    refine zC (t:=66) rfl (λhg66=>?_) (λhg66=>?_)
    ·have hh66:=hg66;try simp only[aM,dX]at hh66
     iterate 4 refine AX ?_
     refine zC (t:=70) rfl (λhg70=>?_) (λhg70=>?_)
     ·have hh70:=hg70;try simp only[aM,dX]at hh70
      iterate 4 refine AX ?_
      exact⟨rfl,zL rfl (by(simp[*];done)) sX,rfl⟩
     have hh70:=hg70;try simp only[aO,dF]at hh70
     iterate 4 refine AX ?_
     exact⟨rfl,zL rfl (by(simp[*];done)) sX,rfl⟩
    have hh66:=hg66;try simp only[aO,dF]at hh66
    iterate 8 refine AX ?_
    exact⟨rfl,zL rfl (by(simp[*];done)) sX,rfl⟩
   have hh62:=hg62;try simp only[aO,dF]at hh62
   iterate 12 refine AX ?_
   exact⟨rfl,zL rfl (by(simp[*];done)) sX,rfl⟩
  have hh58:=hg58;try simp only[aO,dF]at hh58
  iterate 16 refine AX ?_
  exact⟨rfl,zL rfl (by(simp[*];done)) sX,rfl⟩
 refine .sub [(73,_),(0,_),(5,_),(6,_),(7,_),(8,_)] sX ?_;refine .cx rfl (λhc73=>?_) (λhc73=>?_)
 ·iterate 2 refine AX ?_
  refine .cl rfl C57 (.cons zH .nil) (aaB _ _) ?_;iterate 3 refine AX ?_
  refine .frz (t:=8) rfl (hb8) ?_;iterate 3 refine AX ?_
  refine⟨?_,rfl⟩;rw[agV hc21 hc25,aL (by rw[hc35];decide)];unfold btQ;rw[aL (by simpa using hc39),aN hc73];rfl
 iterate 6 refine AX ?_
 refine .cl rfl call13 (evs2 rfl rfl) (agO l hl hk hg a a_b a_t _) ?_;iterate 14 refine AX ?_
 refine .cx rfl (λhc82=>?_) (λhc82=>?_)
 ·iterate 3 refine AX ?_
  refine .cl rfl C57 (evs1 rfl) (aaB _ _) ?_;iterate 3 refine AX ?_
  refine .frz (t:=8) rfl (hb8) ?_;iterate 3 refine AX ?_
  refine⟨?_,rfl⟩;rw[agV hc21 hc25,aL (by rw[hc35];decide)];unfold btQ;rw[aL (by simpa using hc39),aL (λq=>q hc73),aN (by simpa using hc82)];rfl
 iterate 6 refine AX ?_
 refine .cl rfl call13 (evs2 rfl rfl) (agO l hl hk hg b b_b b_t _) ?_;iterate 14 refine AX ?_
 refine .cx rfl (λhc92=>?_) (λhc92=>?_)
 ·iterate 3 refine AX ?_
  refine .cl rfl C57 (evs1 rfl) (aaB _ _) ?_;iterate 3 refine AX ?_
  refine .frz (t:=8) rfl (hb8) ?_;iterate 3 refine AX ?_
  refine⟨?_,rfl⟩;rw[agV hc21 hc25,aL (by rw[hc35];decide)];unfold btQ;rw[aL (by simpa using hc39),aL (λq=>q hc73),aL (by simpa using hc82),aN (by simpa using hc92)];rfl
 iterate 15 refine AX ?_
 refine .cx rfl (λhc96=>?_) (λhc96=>?_)
 ·iterate 4 refine AX ?_
  refine .cl rfl call72 (evs2 rfl rfl) (axT _ _ aB aB _) (.cl rfl C58 (evs1 rfl) (aaL _ had _) ?_);iterate 3 refine AX ?_
  refine .frz (t:=8) rfl (hb8) ?_;iterate 4 refine AX ?_
  refine⟨?_,rfl⟩;rw[agV hc21 hc25,aL (by rw[hc35];decide)];unfold btQ;rw[aL (by simpa using hc39),aL (λq=>q hc73),aL (by simpa using hc82),aL (by simpa using hc92),aN (by simpa using hc96)];rfl
 iterate 6 refine AX ?_
 refine .cx rfl (λhc102=>?_) (λhc102=>?_)
 ·iterate 4 refine AX ?_
  refine .cl rfl call73 (evs2 rfl rfl) (bqH _ _ a_n b_n _) (.cl rfl C58 (evs1 rfl) (aaL _ hsb _) ?_);iterate 3 refine AX ?_
  refine .frz (t:=8) rfl (hb8) ?_;iterate 4 refine AX ?_
  refine⟨?_,rfl⟩;rw[agV hc21 hc25,aL (by rw[hc35];decide)];unfold btQ;rw[aL (by simpa using hc39),aL (λq=>q hc73),aL (by simpa using hc82),aL (by simpa using hc92),aL (by simpa using hc96),aN (by simpa using hc102)];rfl
 iterate 6 refine AX ?_
 refine .cx rfl (λhc108=>?_) (λhc108=>?_)
 ·iterate 4 refine AX ?_
  refine .cl rfl call74 (evs2 rfl rfl) (apE _ _ aB aB _) (.cl rfl C58 (evs1 rfl) (aaL _ hml _) ?_);iterate 3 refine AX ?_
  refine .frz (t:=8) rfl (hb8) ?_;iterate 4 refine AX ?_
  refine⟨?_,rfl⟩;rw[agV hc21 hc25,aL (by rw[hc35];decide)];unfold btQ;rw[aL (by simpa using hc39),aL (λq=>q hc73),aL (by simpa using hc82),aL (by simpa using hc92),aL (by simpa using hc96),aL (by simpa using hc102),aN (by simpa using hc108)];rfl
 iterate 6 refine AX ?_
 refine .cx rfl (λhc114=>?_) (λhc114=>?_)
 ·iterate 4 refine AX ?_
  refine .cl rfl C75 (evs1 rfl) (ahH _ aB _) ?_;iterate 3 refine AX ?_
  refine .cx rfl (λhc118=>?_) (λhc118=>?_)
  ·iterate 2 refine AX ?_
   refine .cl rfl C57 (.cons zH .nil) (aaB _ _) ?_;iterate 3 refine AX ?_
   refine .frz (t:=8) rfl (hb8) ?_;iterate 5 refine AX ?_
   refine⟨?_,rfl⟩;rw[agV hc21 hc25,aL (by rw[hc35];decide)];unfold btQ;rw[aL (by simpa using hc39),aL (λq=>q hc73),aL (by simpa using hc82),aL (by simpa using hc92),aL (by simpa using hc96),aL (by simpa using hc102),aL (by simpa using hc108),aN (by simpa using hc114),bqF,aN (by simpa using hc118)];rfl
  iterate 6 refine AX ?_
  refine .cl rfl call59 (evs2 rfl rfl) (apF _ _ a_n b_n _) (.cl rfl C58 (evs1 rfl) (aaL _ hdl _) ?_);iterate 3 refine AX ?_
  refine .frz (t:=8) rfl (hb8) ?_;iterate 4 refine AX ?_
  refine⟨?_,rfl⟩;rw[agV hc21 hc25,aL (by rw[hc35];decide)];unfold btQ;rw[aL (by simpa using hc39),aL (λq=>q hc73),aL (by simpa using hc82),aL (by simpa using hc92),aL (by simpa using hc96),aL (by simpa using hc102),aL (by simpa using hc108),aN (by simpa using hc114),bqF,aL (by simpa using hc118)];rfl
 iterate 7 refine AX ?_
 refine .cl rfl call76 (evs2 rfl rfl) (bdJ _ _ aB aB _) ?_;iterate 3 refine AX ?_
 refine .frz (t:=8) rfl (hb8) ?_;iterate 2 refine AX ?_
 refine⟨?_,rfl⟩;rw[agV hc21 hc25,aL (by rw[hc35];decide)];unfold btQ;rw[aL (by simpa using hc39),aL (λq=>q hc73),aL (by simpa using hc82),aL (by simpa using hc92),aL (by simpa using hc96),aL (by simpa using hc102),aL (by simpa using hc108),aL (by simpa using hc114)];rfl
end
end Go.Proofs.YtmmgbnolccpjoaaGreatDoor
