/-
  Sums of numbers (plain): by 128 bits and 'a little more' they are what naturals of any size give.
-/
import Derived.Test.YtojblnldfdeefaaGreatDoorP3x
namespace Go.Proofs.YtojblnldfdeefaaGreatDoor
open Go Go.RowKit
def addsT(p q:Nat):Int:=(([[4,0,3,1],[0,0,3,1],[2,2,4,1],[1,1,1,1]]:List (List Int)).getD p []).getD q 0
def sumP(na:Bool)(ma:Nat)(ea:Int)(nb:Bool)(mb:Nat)(eb:Int):Nat:=
  let up:=(min (ea-eb) 64).toNat
  let x:=ma*2^up
  let e:=ea-up
  let j:=(e-eb).toNat
  let y:=mb/2^j
  let more:=decide (mb%2^j≠0)
  if na=nb then roundN na (x+y) e more
  else
    let z:=if more=true then y+1 else y
    if x<z then roundN nb (z-x) e false else if x-z=0∧more=false then 0 else roundN na (x-z) e more
end Go.Proofs.YtojblnldfdeefaaGreatDoor
namespace Go.Proofs.YtojblnldfdeefaaGreatDoor
open Go Go.RowKit
end Go.Proofs.YtojblnldfdeefaaGreatDoor
namespace Go.Proofs.YtojblnldfdeefaaGreatDoor
open Go Go.RowKit
def nanN:Nat:=9221120237041090560
def addK(a b:Nat):Int:=addsT (kindA (kindN a)) (kindA (kindN b))
def fsumN(a b:Nat):Nat:=if partE a<partE b then sumP (negB b) (partM b) (partE b) (negB a) (partM a) (partE a)else sumP (negB a) (partM a) (partE a) (negB b) (partM b) (partE b)
def faddN(a b:Nat):Nat:=
  if addK a b=1 then nanN else if addK a b=2 then a else if addK a b=3 then b
  else if addK a b=4 then(if a=b then a else if kindN a=3 then nanN else 0)
  else fsumN a b
def largeM(x:Nat):Nat:=partM x*2^(53-blen (partM x))
def largeE(x:Nat):Int:=partE x-((53-blen (partM x):Nat):Int)
def divNone(a b:Nat):Prop:=kindN a=4∨kindN b=4∨(kindN a=3∧kindN b=3)∨(kindN a=0∧kindN b=0)
instance (a b:Nat):Decidable (divNone a b):=by unfold divNone;exact inferInstance
def fdivN(a b:Nat):Nat:=
  if divNone a b then nanN
  else if kindN a=3∨kindN b=0 then signN (mnegB a b)+infN
  else if kindN a=0∨kindN b=3 then signN (mnegB a b)
  else roundN (mnegB a b) (largeM a*2^64/largeM b) (largeE a-largeE b-64) (decide (largeM a*2^64%largeM b≠0))
def orderN(x:Nat):Int:=if 9223372036854775808≤x then-(((if kindN x=4 then nanN else x%9223372036854775808:Nat):Nat):Int)else(x:Int)
def fcmpN(a b:Nat):Int:=if kindN a=4∨kindN b=4 then 0 else if orderN a<orderN b then-1 else if orderN b<orderN a then 1 else 0
def fsignN(x:Nat):Int:=fcmpN x 0
def toN(x:Nat):Int×Int:=
  if 3≤kindN x then(0,11)
  else
    let n:=if partE x<0 then partM x/2^(-partE x).toNat else partM x*2^(partE x).toNat
    if 0≤partE x∧11<partE x then(0,6)
    else if negB x=true then(if n≤9223372036854775808 then(-(n:Int),0)else(0,6))else(if n<9223372036854775808 then((n:Int),0)else(0,6))
end Go.Proofs.YtojblnldfdeefaaGreatDoor
namespace Go.Proofs.YtojblnldfdeefaaGreatDoor
open Go Go.RowKit
set_option maxRecDepth 100000
theorem div2{a b:Nat}(hb:0<b)(_:b≤M1):w2 (a/M1/b) ((a/M1%b*18446744073709551616+a%M1)/b)=u2 (a/b)∧(a/M1%b*18446744073709551616+a%M1)%b=a%b:=by
  obtain⟨e1,e2⟩:=div_digs (B:=M1) (Y:=b) (a:=a/M1) (u0:=a%M1) hb;have e3:a/M1*M1+a%M1=a:=by rw[Nat.mul_comm];exact Nat.div_add_mod a M1
  rw[e3]at e1 e2;have hlt:(a/M1%b*M1+a%M1)/b<M1:=by
    rw[Nat.div_lt_iff_lt_mul hb];have h1:=Nat.mul_le_mul_right M1 (Nat.succ_le_of_lt (Nat.mod_lt (a/M1) hb));have h2:=l2_lt a;rw[Nat.succ_mul,Nat.mul_comm b]at h1;omega
  have e4:M1=18446744073709551616:=rfl;rw[←e4,e2,e1];refine⟨?_,rfl⟩;unfold u2;generalize(a/M1%b*M1+a%M1)/b=z at *;rw[Nat.add_comm (_*M1),Nat.add_mul_div_right _ _ (by decide),Nat.add_mul_mod_self_right,Nat.div_eq_of_lt hlt,Nat.mod_eq_of_lt hlt,Nat.zero_add]
theorem wDiv_calls(a b:Nat)(ha:a<M2)(hb:0<b)(hb2:b<18446744073709551616)(H:Heap):ACall Tryz.prog 136 [u2 a,.int .u64 (b:Int)] H (λy H'=>y= .tuple [u2 (a/b),.int .u64 ((a%b:Nat):Int),.int .i64 0]∧H'=H):=by
  have ha1:=h2_lt ha;have ha2:=l2_lt a;obtain⟨e1,e2⟩:=div2 (a:=a) hb (Nat.le_of_lt hb2);refine ACall.of_body Tryz.func136 rfl Tryz.ntmps136 Tryz.results136 rfl ?_;refine .sr ?_;refine .e rfl (step_boxI (tm rfl) (.inr ⟨_,rfl⟩)) ?_;refine .s rfl (step_al zr91) ?_;rintro _ _ ⟨b4,hb4,rfl,hH⟩;obtain rfl:=hH.symm;refine .p rfl (pure_assign (ev_nat 0)) ?_;refine .p rfl (pure_assign ev_int) ?_;refine .ng ?_;refine .seq ?_;refine .sr ?_;refine .mv rfl rfl ?_;refine .p rfl (pure_eql (tm rfl) (ev_nat 0)) ?_;refine .ng ?_;refine AWP.cond_false (tm rfl) (by exact decide_eq_false (by omega)) ?_;refine .skip ?_;refine Next.go ?_;refine .seq ?_;refine AWP.draw [(0,true),(1,true),(2,true),(3,true),(4,true),(5,true),(6,true),(7,true),(8,true),(9,true)] rfl (by decide+kernel) ?_;refine .p rfl rfl (pure_fieldI Tryz.underlying91 rfl Tryz.sizeOf25 (tm rfl)) ?_;refine .p rfl rfl (pure_load1 Tryz.isAgg25 (tm rfl)) ?_;refine .p rfl rfl (pure_move (tm rfl)) ?_;refine .p rfl rfl (pure_quo64 (tm rfl) (tm rfl) (by assumption) (by assumption)) ?_;refine .p rfl rfl (pure_fieldI Tryz.underlying91 rfl Tryz.sizeOf25 (tm rfl)) ?_;refine .p rfl rfl (pure_load1 Tryz.isAgg25 (tm rfl)) ?_;refine .p rfl rfl (pure_move (tm rfl)) ?_;refine .p rfl rfl (pure_rem64 (tm rfl) (tm rfl) (by assumption)) ?_;refine .p rfl rfl (pure_assign (tm rfl)) ?_;refine .p rfl rfl (pure_assign (tm rfl)) ?_;refine .nil ?_;refine Next.go ?_;refine .sr ?_;refine .mv rfl rfl ?_;refine .p rfl (pure_fieldI Tryz.underlying91 rfl Tryz.sizeOf25 (tm rfl)) ?_;refine .p rfl (pure_load1 Tryz.isAgg25 (tm rfl)) ?_;refine .mv rfl rfl ?_;refine .cl rfl Tryz.call211 (evs3 rfl rfl rfl) (Div64_calls (a/M1%b) (a%M1) b (Nat.mod_lt _ hb) ha2 hb2 _) ?_;refine .mv rfl rfl ?_;refine .p rfl (pure_extract (tm rfl) rfl) ?_;refine .p rfl (pure_extract (tm rfl) rfl) ?_;refine .as rfl rfl ?_;refine .as rfl rfl ?_;refine .nr ?_;refine .mv rfl rfl ?_;refine .mv rfl rfl ?_;refine .p rfl (pure_bd zr91 pl91 (.cons (tm rfl) (.inl rfl) (.cons (tm rfl) (.inl rfl) .nil))) ?_;refine .mv rfl rfl ?_;refine .e0 (step_store Tryz.sizeOf91 (tm rfl) (tm rfl) rfl rfl (.inr ⟨_,rfl⟩) (Heap.objs_set_same _ _ _) (Nat.le_of_ble_eq_true rfl)) ?_;try first|rw[Heap.set_set]|rw[Heap.set_under (by assumption)]
  refine .as rfl rfl ?_;refine .p rfl (pure_assign ev_int) ?_;refine .ng ?_;refine AWP.frz (t:=4) rfl (hb4) ?_;refine .ret ?_;refine Ret.go (.cons (.cellI _ _ _ _ rfl Tryz.isAgg91 Tryz.sizeOf91 rfl) (.cons (.tmp _ _ rfl) (.cons (.tmp _ _ rfl) .nil))) _ (Heap.le.refl _) ?_;refine⟨?_,rfl⟩;rw[←e1,←e2];rfl
end Go.Proofs.YtojblnldfdeefaaGreatDoor
set_option maxHeartbeats 1000000
namespace Go.Proofs.YtojblnldfdeefaaGreatDoor
open Go Go.RowKit
theorem roundN_lt(neg:Bool)(n:Nat)(e:Int)(more:Bool):roundN neg n e more<18446744073709551616:=by
  have h:roundN neg n e more=signN neg+roundN false n e more:=by
    unfold roundN;split
    · rfl
    split
    · unfold signN;simp
    rw[pk_eq,pk_eq];unfold signN;simp
  have h2:=round_le n e more;rw[h];unfold signN infN at *;split<;>omega
theorem fmulN_lt(a b:Nat):fmulN a b<18446744073709551616:=by
  unfold fmulN;split
  · decide
  split
  · split<;>decide
  exact roundN_lt _ _ _ _
end Go.Proofs.YtojblnldfdeefaaGreatDoor
namespace Go.Proofs.YtojblnldfdeefaaGreatDoor
open Go Go.RowKit
end Go.Proofs.YtojblnldfdeefaaGreatDoor
-- shim
namespace Go.Proofs.YtojblnldfdeefaaGreatDoor
open Go Go.RowKit
theorem sumP_lt(na:Bool)(ma:Nat)(ea:Int)(nb:Bool)(mb:Nat)(eb:Int):sumP na ma ea nb mb eb<18446744073709551616:=by
  unfold sumP;simp only;generalize(if decide (mb%2^_≠0)=true then _ else _:Nat)=z;split
  · exact roundN_lt _ _ _ _
  split
  · exact roundN_lt _ _ _ _
  split
  · decide
  exact roundN_lt _ _ _ _
theorem fsum_lt(a b:Nat):fsumN a b<18446744073709551616:=by
  unfold fsumN;split<;>exact sumP_lt _ _ _ _ _ _
theorem fadd_lt{a b:Nat}(ha:a<18446744073709551616)(hb:b<18446744073709551616):faddN a b<18446744073709551616:=by
  unfold faddN;split
  · decide
  split
  · exact ha
  split
  · exact hb
  split
  · split
    · exact ha
    split<;>decide
  exact fsum_lt a b
theorem sign_inf(neg:Bool):signN neg+infN<18446744073709551616∧signN neg<18446744073709551616:=by cases neg<;>decide
theorem fdiv_lt(a b:Nat):fdivN a b<18446744073709551616:=by
  unfold fdivN;split
  · decide
  split
  · exact(sign_inf _).1
  split
  · exact(sign_inf _).2
  exact roundN_lt _ _ _ _
end Go.Proofs.YtojblnldfdeefaaGreatDoor
namespace Go.Proofs.YtojblnldfdeefaaGreatDoor
open Go Go.RowKit
set_option maxRecDepth 100000
theorem adds_tab{p q:Nat}(hp:p<4)(hq:q<4):((([.int .i64 4,.int .i64 0,.int .i64 3,.int .i64 1,.int .i64 0,.int .i64 0,.int .i64 3,.int .i64 1,.int .i64 2,.int .i64 2,.int .i64 4,.int .i64 1,.int .i64 1,.int .i64 1,.int .i64 1,.int .i64 1]:List AV).drop (((p:Nat):Int).toNat*4)).drop (((q:Nat):Int).toNat*1))[0]?=some (.int .i64 (addsT p q)):=by
  rcases(by omega:p=0∨p=1∨p=2∨p=3)with rfl|rfl|rfl|rfl<;>rcases(by omega:q=0∨q=1∨q=2∨q=3)with rfl|rfl|rfl|rfl<;>rfl
def topY(y:Nat)(more:Bool):Nat:=if more=true then y+1 else y
def sumQ(na nb:Bool)(x y:Nat)(e:Int)(more:Bool):Nat:=
  if na=nb then roundN na (x+y) e more
  else if x<topY y more then roundN nb (topY y more-x) e false else if x-topY y more=0∧more=false then 0 else roundN na (x-topY y more) e more
theorem sumP_at{na nb:Bool}{ma mb:Nat}{ea eb:Int}{up j:Nat}(hup:up=(min (ea-eb) 64).toNat)(hj:j=(ea-up-eb).toNat):sumP na ma ea nb mb eb=sumQ na nb (ma*2^up) (mb/2^j) (ea-up) (decide (mb%2^j≠0)):=by
  subst hup;subst hj;rfl
theorem shl_room{m n:Nat}(hm:m<9007199254740992)(hn:n≤64):m*2^n<166153499473114484112975882535043072:=by
  have h1:2^n≤2^64:=Nat.pow_le_pow_right (by decide) hn;have h2:m*2^n≤9007199254740991*2^64:=Nat.mul_le_mul (by omega) h1;exact Nat.lt_of_le_of_lt h2 (by decide)
theorem M2_lit:M2=340282366920938463463374607431768211456:=rfl
theorem wShlU(v:Nat)(n:Nat)(hn:n<128)(q:Int)(hq:q=(n:Int))(H:Heap):ACall Tryz.prog 148 [u2 v,.int .i64 q] H (λy H'=>y=u2 (v*2^n%M2)∧H'=H):=by
  by_cases h:n<64
  · exact wShl_calls v n h q hq H
  exact wShlF_calls v n ⟨by omega,hn⟩ q hq H
theorem sub_same{a b:Nat}(ha:a<M2)(h:b≤a):(a+M2-b)%M2=a-b:=by unfold M2 at *;omega
theorem sum_zero{x z:Nat}(hx:x<M2)(h:¬x<z):(decide (((((x+M2-z)%M2/M1:Nat)):Int)=0∧((((x+M2-z)%M2%M1:Nat)):Int)=0))=decide (x-z=0):=by
  rw[sub_same hx (by omega)];refine decide_eq_decide.2 ?_;unfold M1;omega
theorem adds_calls(a b:Nat)(ha:a<18446744073709551616)(hb:b<18446744073709551616)(H:Heap):ACall Tryz.prog 125 [.int .u64 (a:Int),.int .u64 (b:Int)] H (λy H'=>y= .int .i64 (addK a b)∧H'=H):=by
  have hka:=kindA_lt (kindN a);have hkb:=kindA_lt (kindN b);refine ACall.of_body Tryz.func125 rfl Tryz.ntmps125 Tryz.results125 rfl ?_;refine .sr ?_;refine .p rfl (pure_assign ev_int) ?_;refine .nr ?_;refine .p rfl (pure_bdA Tryz.underlying227 Tryz.sizeOf3 zr227 (.cons ev_int (.inl rfl) (.cons ev_int (.inl rfl) (.cons ev_int (.inl rfl) (.cons ev_int (.inl rfl) .nil)))) rfl) ?_;refine .p rfl (pure_bdA Tryz.underlying227 Tryz.sizeOf3 zr227 (.cons ev_int (.inl rfl) (.cons ev_int (.inl rfl) (.cons ev_int (.inl rfl) (.cons ev_int (.inl rfl) .nil)))) rfl) ?_;refine .p rfl (pure_bdA Tryz.underlying227 Tryz.sizeOf3 zr227 (.cons ev_int (.inl rfl) (.cons ev_int (.inl rfl) (.cons ev_int (.inl rfl) (.cons ev_int (.inl rfl) .nil)))) rfl) ?_;refine .p rfl (pure_bdA Tryz.underlying227 Tryz.sizeOf3 zr227 (.cons ev_int (.inl rfl) (.cons ev_int (.inl rfl) (.cons ev_int (.inl rfl) (.cons ev_int (.inl rfl) .nil)))) rfl) ?_;refine .p rfl (pure_bdA Tryz.underlying228 Tryz.sizeOf227 zr228 (.cons (tm rfl) (.inr ⟨_,rfl⟩) (.cons (tm rfl) (.inr ⟨_,rfl⟩) (.cons (tm rfl) (.inr ⟨_,rfl⟩) (.cons (tm rfl) (.inr ⟨_,rfl⟩) .nil)))) rfl) ?_;refine .s rfl (step_al zr228) ?_;rintro _ _ ⟨b5,hb5,rfl,hH⟩;obtain rfl:=hH.symm;refine .e0 (step_store Tryz.sizeOf228 (tm rfl) (tm rfl) rfl rfl (.inr ⟨_,rfl⟩) (Heap.objs_set_same _ _ _) (Nat.le_of_ble_eq_true rfl)) ?_;try first|rw[Heap.set_set]|rw[Heap.set_under (by assumption)]
  refine .ng ?_;refine AWP.frz (t:=5) rfl (hb5) ?_;refine .seq ?_;refine AWP.draw [(0,true),(1,true),(2,true),(3,true),(4,true),(5,true),(6,true),(7,true)] rfl (by decide+kernel) ?_;refine .p rfl rfl (pure_move (tm rfl)) ?_;refine APlan.f rfl rfl (λ_=>step_call0 Tryz.call202 (evs1 rfl) (akind_calls _ (by assumption) _)) ?_;refine .p rfl rfl (pure_move (tm rfl)) ?_;refine APlan.f rfl rfl (λ_=>step_call0 Tryz.call202 (evs1 rfl) (akind_calls _ (by assumption) _)) ?_;refine .p rfl rfl (pure_indexA Tryz.underlying228 Tryz.sizeOf227 (tm rfl) (tm rfl) (by omega) (by omega)) ?_;refine .p rfl rfl (pure_indexA Tryz.underlying227 Tryz.sizeOf3 (tm rfl) (tm rfl) (by omega) (by omega)) ?_;refine .p rfl rfl (pure_loadH Tryz.isAgg3 (tm rfl) (adds_tab hka hkb)) ?_;refine .p rfl rfl (pure_assign (tm rfl)) ?_;refine .nil ?_;refine Next.go ?_;refine .ret ?_;refine Ret.go (.cons (.tmp _ _ rfl) .nil) _ (Heap.le.refl _) ?_;exact⟨rfl,rfl⟩
theorem sum_calls(a b:Nat)(ha:a<18446744073709551616)(hb:b<18446744073709551616)(H:Heap):ACall Tryz.prog 126 [.int .u64 (a:Int),.int .u64 (b:Int)] H (λy H'=>y= .int .u64 ((fsumN a b:Nat):Int)∧H'=H):=by
  have hpa:=partE_range a;have hpb:=partE_range b;have hma:=partM_lt a;have hmb:=partM_lt b;refine ACall.of_body Tryz.func126 rfl Tryz.ntmps126 Tryz.results126 rfl ?_;refine .sr ?_;refine .p rfl (pure_assign (ev_nat 0)) ?_;refine .nr ?_;refine .mv rfl rfl ?_;refine .cl rfl Tryz.call128 (evs1 rfl) (Split_calls a ha _) ?_;refine .mv rfl rfl ?_;refine .p rfl (pure_extract (tm rfl) rfl) ?_;refine .p rfl (pure_extract (tm rfl) rfl) ?_;refine .p rfl (pure_extract (tm rfl) rfl) ?_;refine .as rfl rfl ?_;refine .as rfl rfl ?_;refine .as rfl rfl ?_;refine .nr ?_;refine .mv rfl rfl ?_;refine .cl rfl Tryz.call128 (evs1 rfl) (Split_calls b hb _) ?_;refine .mv rfl rfl ?_;refine .p rfl (pure_extract (tm rfl) rfl) ?_;refine .p rfl (pure_extract (tm rfl) rfl) ?_;refine .p rfl (pure_extract (tm rfl) rfl) ?_;refine .as rfl rfl ?_;refine .as rfl rfl ?_;refine .as rfl rfl ?_;refine .ng ?_;refine AWP.meet (λenv H2=>∃(na nb:Bool)(ma mb:Nat)(ea eb:Int),eb≤ea∧ma<9007199254740992∧mb<9007199254740992∧(-1075≤eb∧ea≤972)∧sumP na ma ea nb mb eb=fsumN a b∧env=[(4,.int .u64 ((0:Nat):Int)),(5,.bool na),(6,.int .u64 (ma:Int)),(7,.int .i64 ea),(8,.bool nb),(9,.int .u64 (mb:Int)),(10,.int .i64 eb)]∧H=H2) ?_ ?_
  · refine .sr ?_;refine .mv rfl rfl ?_;refine .mv rfl rfl ?_;refine .p rfl (pure_lss (tm rfl) (tm rfl)) ?_;refine .ng ?_;refine AWP.cond (tm rfl) (λhc34=>?_) (λhc34=>?_)
    · try simp only[decide_eq_true_eq]at hc34
      refine .region ?_;refine .mv rfl rfl ?_;refine .mv rfl rfl ?_;refine .mv rfl rfl ?_;refine .mv rfl rfl ?_;refine .mv rfl rfl ?_;refine .mv rfl rfl ?_;refine .as rfl rfl ?_;refine .as rfl rfl ?_;refine .as rfl rfl ?_;refine .as rfl rfl ?_;refine .as rfl rfl ?_;refine .as rfl rfl ?_;refine .ng ?_;refine Meets.mk (M:=λenv H2=>∃(na nb:Bool)(ma mb:Nat)(ea eb:Int),eb≤ea∧ma<9007199254740992∧mb<9007199254740992∧(-1075≤eb∧ea≤972)∧sumP na ma ea nb mb eb=fsumN a b∧env=[(4,.int .u64 ((0:Nat):Int)),(5,.bool na),(6,.int .u64 (ma:Int)),(7,.int .i64 ea),(8,.bool nb),(9,.int .u64 (mb:Int)),(10,.int .i64 eb)]∧H=H2) ⟨_,_,_,_,_,_,by omega,by omega,by omega,by omega,by unfold fsumN;rw[if_pos (by omega)],rfl,rfl⟩ (sub_c rfl (sub_c rfl (sub_c rfl (sub_c rfl (sub_c rfl (sub_c rfl (sub_c rfl sub_n))))))) (Heap.le.refl _)
    try simp only[decide_eq_false_iff_not,Int.not_lt]at hc34
    refine .skip ?_;refine Next.go ?_;refine Meets.mk (M:=λenv H2=>∃(na nb:Bool)(ma mb:Nat)(ea eb:Int),eb≤ea∧ma<9007199254740992∧mb<9007199254740992∧(-1075≤eb∧ea≤972)∧sumP na ma ea nb mb eb=fsumN a b∧env=[(4,.int .u64 ((0:Nat):Int)),(5,.bool na),(6,.int .u64 (ma:Int)),(7,.int .i64 ea),(8,.bool nb),(9,.int .u64 (mb:Int)),(10,.int .i64 eb)]∧H=H2) ⟨_,_,_,_,_,_,by omega,by omega,by omega,by omega,by unfold fsumN;rw[if_neg (by omega)],rfl,rfl⟩ (sub_c rfl (sub_c rfl (sub_c rfl (sub_c rfl (sub_c rfl (sub_c rfl (sub_c rfl sub_n))))))) (Heap.le.refl _)
  rintro _ _ ⟨na,nb,ma,mb,ea,eb,hle,hm1,hm2,hr,hsum,rfl,rfl⟩;obtain⟨up,hup⟩:∃up:Nat,up=(min (ea-eb) 64).toNat:=⟨_,rfl⟩;obtain⟨j,hj⟩:∃j:Nat,j=(ea-up-eb).toNat:=⟨_,rfl⟩;have hup64:up≤64:=by omega
  have hroom:=shl_room hm1 hup64;have hyl:mb/2^j≤mb:=Nat.div_le_self _ _;rw[←hsum,sumP_at hup hj];refine .sr ?_;refine .mv rfl rfl ?_;refine .mv rfl rfl ?_;refine .p rfl (pure_sub (tm rfl) (tm rfl) (by omega)) ?_;refine .p rfl (pure_min2 (tm rfl) ev_int) ?_;refine .as rfl rfl ?_;refine .ng ?_;refine .seq ?_;rw[show imin (ea-eb) 64=((up:Nat):Int) by simp only[imin];split<;>omega];refine .region ?_;refine .mv rfl rfl ?_;refine .p rfl (pure_bd zr91 pl91 (.cons (tm rfl) (.inl rfl) .nil)) ?_;refine .mv rfl rfl ?_;refine .cl rfl Tryz.call148 (evs2 rfl rfl) ((by have h:=λH=>wShlU ma up (by omega) _ rfl H;rw[u2_low (by(unfold M1;omega))]at h;exact h _)) ?_;rw[Nat.mod_eq_of_lt (show ma*2^up<M2 by rw[M2_lit];omega)];refine .mv rfl rfl ?_;refine .mv rfl rfl ?_;refine .p rfl (pure_sub (tm rfl) (tm rfl) (by omega)) ?_;refine .s rfl (step_al zr91) ?_;rintro _ _ ⟨b12,hb12,rfl,hH⟩;obtain rfl:=hH.symm;refine .e0 (step_store Tryz.sizeOf91 (tm rfl) (tm rfl) rfl rfl (.inr ⟨_,rfl⟩) (Heap.objs_set_same _ _ _) (Nat.le_of_ble_eq_true rfl)) ?_;try first|rw[Heap.set_set]|rw[Heap.set_under (by assumption)]
  refine .as rfl rfl ?_;refine .ng ?_;refine AWP.frz (t:=12) rfl (hb12) ?_;refine .sr ?_;refine .mv rfl rfl ?_;refine .p rfl (pure_bd zr91 pl91 (.cons (tm rfl) (.inl rfl) .nil)) ?_;refine .mv rfl rfl ?_;refine .mv rfl rfl ?_;refine .p rfl (pure_sub (tm rfl) (tm rfl) (by omega)) ?_;refine .cl rfl Tryz.call203 (evs2 rfl rfl) ((by have h:=λH=>wShr_calls mb (by rw[M2_lit];omega) j (by omega) (ea-up-eb) (by omega) H;rw[u2_low (by(unfold M1;omega))]at h;exact h _)) ?_;refine .mv rfl rfl ?_;refine .p rfl (pure_extract (tm rfl) rfl) ?_;refine .p rfl (pure_extract (tm rfl) rfl) ?_;refine .s rfl (step_al zr91) ?_;rintro _ _ ⟨b14,hb14,rfl,hH⟩;obtain rfl:=hH.symm;refine .e0 (step_store Tryz.sizeOf91 (tm rfl) (tm rfl) rfl rfl (.inr ⟨_,rfl⟩) (Heap.objs_set_same _ _ _) (Nat.le_of_ble_eq_true rfl)) ?_;try first|rw[Heap.set_set]|rw[Heap.set_under (by assumption)]
  refine .as rfl rfl ?_;refine .ng ?_;refine .seq ?_;refine .seq ?_;obtain⟨x,hx⟩:∃x,x=ma*2^up:=⟨_,rfl⟩;obtain⟨y,hy⟩:∃y,y=mb/2^j:=⟨_,rfl⟩;obtain⟨e,he⟩:∃e:Int,e=ea-up:=⟨_,rfl⟩;generalize hmo:decide (mb%2^j≠0)=more;rw[←hx,←hy,←he];rw[←hx]at hroom;rw[←hy]at hyl;refine .region ?_;refine .mv rfl rfl ?_;refine .mv rfl rfl ?_;refine .p rfl (pure_eqlB Tryz.underlying4 (tm rfl) (tm rfl)) ?_;refine .ng ?_;refine AWP.cond (tm rfl) (λhc63=>?_) (λhc63=>?_)
  · try simp only[decide_eq_true_eq,decide_eq_false_iff_not,Bool.not_eq_true',Bool.not_eq_false',Int.not_lt,Int.not_le,ne_eq,Decidable.not_not]at hc63
    refine .sr ?_;refine .p rfl (pure_loadN Tryz.isAgg91 Tryz.sizeOf91 (tm rfl) (Nat.le_of_ble_eq_true rfl)) ?_;refine .e rfl (step_loadN Tryz.isAgg91 Tryz.sizeOf91 (tm rfl) (Heap.objs_set_same _ _ _) (Nat.le_of_ble_eq_true rfl)) ?_;refine .cl rfl Tryz.call204 (evs2 rfl rfl) (wAdd_calls x y (by rw[M2_lit];omega) (by rw[M2_lit];omega) _) ?_;rw[Nat.mod_eq_of_lt (show x+y<M2 by rw[M2_lit];omega)];refine .mv rfl rfl ?_;refine .p rfl (pure_extract (tm rfl) rfl) ?_;refine .p rfl (pure_extract (tm rfl) rfl) ?_;refine .s rfl (step_al zr91) ?_;rintro _ _ ⟨b16,hb16,rfl,hH⟩;obtain rfl:=hH.symm;have hn14_16:=Heap.ne_of (b:=b14) (Heap.objs_set_same _ _ _) hb16;refine .e0 (step_store Tryz.sizeOf91 (tm rfl) (tm rfl) rfl rfl (.inr ⟨_,rfl⟩) (Heap.objs_set_same _ _ _) (Nat.le_of_ble_eq_true rfl)) ?_;try first|rw[Heap.set_set]|rw[Heap.set_under (by assumption)]
    refine .as rfl rfl ?_;refine .ng ?_;refine AWP.frz (t:=16) rfl (hb16) ?_;refine .sr ?_;refine .mv rfl rfl ?_;refine .p rfl (pure_loadN Tryz.isAgg91 Tryz.sizeOf91 (tm rfl) (Nat.le_of_ble_eq_true rfl)) ?_;refine .mv rfl rfl ?_;refine .mv rfl rfl ?_;refine .cl rfl Tryz.call129 (.cons (tm rfl) (evs3 rfl rfl rfl)) (Join_calls na (x+y) (by rw[M2_lit];omega) e (by omega) more _) ?_;refine .as rfl rfl ?_;refine .ng ?_;refine AWP.dropb (hb14) ?_;refine .ret ?_;refine Next.rt ?_;refine Ret.go (.cons (.tmp _ _ rfl) .nil) _ (Heap.le.refl _) ?_;refine⟨?_,rfl⟩;unfold sumQ;rw[if_pos (by simpa using hc63)];rfl
  try simp only[decide_eq_true_eq,decide_eq_false_iff_not,Bool.not_eq_true',Bool.not_eq_false',Int.not_lt,Int.not_le,ne_eq,Decidable.not_not]at hc63
  refine .skip ?_;refine Next.go ?_;refine AWP.meet (λenv H2=>env=[(4,.int .u64 ((0:Nat):Int)),(5,.bool na),(8,.bool nb),(12,.iptr (u2 x).cells),(13,.int .i64 e),(14,.ptr (some ⟨b14,0,none⟩)),(15,.bool more)]∧H2=H.set b14 (.box 91 (u2 (topY y more)).cells)) ?_ ?_
  · refine .sr ?_;refine .mv rfl rfl ?_;refine .ng ?_;refine AWP.cond (tm rfl) (λhc75=>?_) (λhc75=>?_)
    · try simp only[decide_eq_true_eq,decide_eq_false_iff_not,Bool.not_eq_true',Bool.not_eq_false',Int.not_lt,Int.not_le,ne_eq,Decidable.not_not]at hc75
      refine .region ?_;refine .e rfl (step_loadN Tryz.isAgg91 Tryz.sizeOf91 (tm rfl) (Heap.objs_set_same _ _ _) (Nat.le_of_ble_eq_true rfl)) ?_;refine .p rfl (pure_bd zr91 pl91 (.cons (ev_nat 1) (.inl rfl) .nil)) ?_;refine .cl rfl Tryz.call204 (evs2 rfl rfl) ((by have h:=λH=>wAdd_calls y 1 (by rw[M2_lit];omega) (by decide+kernel) H;rw[u2_low (show 1<M1 by decide)]at h;exact h _)) ?_;rw[Nat.mod_eq_of_lt (show y+1<M2 by rw[M2_lit];omega)];refine .mv rfl rfl ?_;refine .p rfl (pure_extract (tm rfl) rfl) ?_;refine .p rfl (pure_extract (tm rfl) rfl) ?_;refine .e0 (step_store Tryz.sizeOf91 (tm rfl) (tm rfl) rfl rfl (.inr ⟨_,rfl⟩) (Heap.objs_set_same _ _ _) (Nat.le_of_ble_eq_true rfl)) ?_;try first|rw[Heap.set_set]|rw[Heap.set_under (by assumption)]
      refine .ng ?_;refine Meets.mk (M:=λenv H2=>env=[(4,.int .u64 ((0:Nat):Int)),(5,.bool na),(8,.bool nb),(12,.iptr (u2 x).cells),(13,.int .i64 e),(14,.ptr (some ⟨b14,0,none⟩)),(15,.bool more)]∧H2=H.set b14 (.box 91 (u2 (topY y more)).cells)) ⟨rfl,by rw[show topY y more=y+1 from if_pos hc75];rfl⟩ (sub_c rfl (sub_c rfl (sub_c rfl (sub_c rfl (sub_c rfl (sub_c rfl (sub_c rfl sub_n))))))) (Heap.le.refl _)
    try simp only[decide_eq_true_eq,decide_eq_false_iff_not,Bool.not_eq_true',Bool.not_eq_false',Int.not_lt,Int.not_le,ne_eq,Decidable.not_not]at hc75
    refine .skip ?_;refine Next.go ?_;refine Meets.mk (M:=λenv H2=>env=[(4,.int .u64 ((0:Nat):Int)),(5,.bool na),(8,.bool nb),(12,.iptr (u2 x).cells),(13,.int .i64 e),(14,.ptr (some ⟨b14,0,none⟩)),(15,.bool more)]∧H2=H.set b14 (.box 91 (u2 (topY y more)).cells)) ⟨rfl,by rw[show topY y more=y from if_neg (by rw[hc75];decide)];rfl⟩ (sub_c rfl (sub_c rfl (sub_c rfl (sub_c rfl (sub_c rfl (sub_c rfl (sub_c rfl sub_n))))))) (Heap.le.refl _)
  rintro _ _ ⟨rfl,rfl⟩;have hty:topY y more≤y+1:=by unfold topY;split<;>omega
  refine .sr ?_;refine .p rfl (pure_loadN Tryz.isAgg91 Tryz.sizeOf91 (tm rfl) (Nat.le_of_ble_eq_true rfl)) ?_;refine .e rfl (step_loadN Tryz.isAgg91 Tryz.sizeOf91 (tm rfl) (Heap.objs_set_same _ _ _) (Nat.le_of_ble_eq_true rfl)) ?_;refine .cl rfl Tryz.call205 (evs2 rfl rfl) (wSub_calls x (topY y more) (by rw[M2_lit];omega) (by rw[M2_lit];omega) _) ?_;refine .mv rfl rfl ?_;refine .p rfl (pure_extract (tm rfl) rfl) ?_;refine .p rfl (pure_extract (tm rfl) rfl) ?_;refine .s rfl (step_al zr91) ?_;rintro _ _ ⟨b18,hb18,rfl,hH⟩;obtain rfl:=hH.symm;have hn14_18:=Heap.ne_of (b:=b14) (Heap.objs_set_same _ _ _) hb18;refine .e0 (step_store Tryz.sizeOf91 (tm rfl) (tm rfl) rfl rfl (.inr ⟨_,rfl⟩) (Heap.objs_set_same _ _ _) (Nat.le_of_ble_eq_true rfl)) ?_;try first|rw[Heap.set_set]|rw[Heap.set_under (by assumption)]
  refine .as rfl rfl ?_;refine .ng ?_;refine .block ?_;refine .sr ?_;refine .mv rfl rfl ?_;refine .as rfl rfl ?_;refine .ng ?_;refine AWP.cond (tm rfl) (λhc93=>?_) (λhc93=>?_)
  · try simp only[decide_eq_true_eq]at hc93
    refine .sr ?_;refine .e rfl (step_loadN Tryz.isAgg91 Tryz.sizeOf91 (tm rfl) ((Heap.objs_set_ne _ _ (by assumption)).trans (Heap.objs_set_same _ _ _)) (Nat.le_of_ble_eq_true rfl)) ?_;refine .p rfl (pure_loadN Tryz.isAgg91 Tryz.sizeOf91 (tm rfl) (Nat.le_of_ble_eq_true rfl)) ?_;refine .cl rfl Tryz.call205 (evs2 rfl rfl) (wSub_calls (topY y more) x (by rw[M2_lit];omega) (by rw[M2_lit];omega) _) ?_;rw[sub_same (by rw[M2_lit];omega) (by omega)];refine .mv rfl rfl ?_;refine .p rfl (pure_extract (tm rfl) rfl) ?_;refine .p rfl (pure_extract (tm rfl) rfl) ?_;refine .e0 (step_store Tryz.sizeOf91 (tm rfl) (tm rfl) rfl rfl (.inr ⟨_,rfl⟩) (Heap.objs_set_same _ _ _) (Nat.le_of_ble_eq_true rfl)) ?_;try first|rw[Heap.set_set]|rw[Heap.set_under (by assumption)]
    refine .nr ?_;refine .mv rfl rfl ?_;refine .e rfl (step_loadN Tryz.isAgg91 Tryz.sizeOf91 (tm rfl) (Heap.objs_set_same _ _ _) (Nat.le_of_ble_eq_true rfl)) ?_;refine .mv rfl rfl ?_;refine .cl rfl Tryz.call129 (.cons (tm rfl) (.cons (tm rfl) (.cons (tm rfl) (.cons ev_bool .nil)))) (Join_calls nb (topY y more-x) (by rw[M2_lit];omega) e (by omega) false _) ?_;refine .as rfl rfl ?_;refine .ng ?_;refine AWP.dropb (hb18) ?_;refine AWP.dropb (hb14) ?_;refine .ret ?_;refine Block.rt ?_;refine Ret.go (.cons (.tmp _ _ rfl) .nil) _ (Heap.le.refl _) ?_;refine⟨?_,rfl⟩;unfold sumQ;rw[if_neg (by simpa using hc63),if_pos (by simpa using hc93)];rfl
  try simp only[decide_eq_false_iff_not]at hc93
  have hxz:¬x<topY y more:=by simpa using hc93
  refine AWP.seqTo 105 (.bool (decide (x-topY y more=0)&& !more)) [4,5,13,15,18] ?_ ?_
  · refine .region ?_;refine .e rfl (step_loadN Tryz.isAgg91 Tryz.sizeOf91 (tm rfl) (Heap.objs_set_same _ _ _) (Nat.le_of_ble_eq_true rfl)) ?_;refine .p rfl (pure_bd zr91 pl91 .nil) ?_;refine .p rfl (pure_eqlA Tryz.eqGuardType91 (tm rfl) (tm rfl) (eq2 _ _ _ _)) ?_;refine .mv rfl rfl ?_;refine bool_casesL (t:=109) rfl (λhg109=>?_) (λhg109=>?_)
    · have hh109:=hg109;try simp only[decide_eq_true_eq]at hh109
      refine .gp rfl rfl rfl (by assumption) (pure_move (tm rfl)) ?_;refine .gp rfl rfl rfl (by assumption) (pure_not (tm rfl)) ?_;refine .p rfl (pure_pickT (tm rfl) (by assumption) (tm rfl)) ?_;refine .as rfl rfl ?_;refine .nil ?_;exact⟨rfl,sub_b rfl (by(rw[←sum_zero (by rw[M2_lit];omega) hxz,hg109];rfl)) (sub_c rfl (sub_c rfl (sub_c rfl (sub_c rfl (sub_c rfl sub_n))))),rfl⟩
    have hh109:=hg109;try simp only[decide_eq_false_iff_not]at hh109
    refine .gn rfl rfl rfl (by assumption) ?_;refine .gn rfl rfl rfl (by assumption) ?_;refine .p rfl (pure_pickF (tm rfl) (by assumption) ev_bool) ?_;refine .as rfl rfl ?_;refine .nil ?_;exact⟨rfl,sub_b rfl (by(rw[←sum_zero (by rw[M2_lit];omega) hxz,hg109];rfl)) (sub_c rfl (sub_c rfl (sub_c rfl (sub_c rfl (sub_c rfl sub_n))))),rfl⟩
  refine AWP.sub [(105,_),(4,_),(5,_),(13,_),(15,_),(18,_)] (sub_c rfl (sub_c rfl (sub_c rfl (sub_c rfl (sub_c rfl (sub_c rfl sub_n)))))) ?_;refine AWP.cond (tm rfl) (λhc105=>?_) (λhc105=>?_)
  · try simp only[decide_eq_true_eq,decide_eq_false_iff_not,Bool.not_eq_true',Bool.not_eq_false',Int.not_lt,Int.not_le,ne_eq,Decidable.not_not]at hc105
    refine .sr ?_;refine .p rfl (pure_assign (ev_nat 0)) ?_;refine .ng ?_;refine AWP.dropb (hb18) ?_;refine AWP.dropb (hb14) ?_;refine .ret ?_;refine Block.rt ?_;refine Ret.go (.cons (.tmp _ _ rfl) .nil) _ (Heap.le.refl _) ?_;refine⟨?_,rfl⟩;unfold sumQ;rw[if_neg (by simpa using hc63),if_neg hxz,if_pos (by simpa using hc105)];rfl
  try simp only[decide_eq_true_eq,decide_eq_false_iff_not,Bool.not_eq_true',Bool.not_eq_false',Int.not_lt,Int.not_le,ne_eq,Decidable.not_not]at hc105
  refine .seq ?_;rw[sub_same (by rw[M2_lit];omega) (by omega)];refine .region ?_;refine .mv rfl rfl ?_;refine .e rfl (step_loadN Tryz.isAgg91 Tryz.sizeOf91 (tm rfl) (Heap.objs_set_same _ _ _) (Nat.le_of_ble_eq_true rfl)) ?_;refine .mv rfl rfl ?_;refine .mv rfl rfl ?_;refine .cl rfl Tryz.call129 (.cons (tm rfl) (evs3 rfl rfl rfl)) (Join_calls na (x-topY y more) (by rw[M2_lit];omega) e (by omega) more _) ?_;refine .as rfl rfl ?_;refine .ng ?_;refine AWP.dropb (hb18) ?_;refine AWP.dropb (hb14) ?_;refine .ret ?_;refine Block.rt ?_;refine Ret.go (.cons (.tmp _ _ rfl) .nil) _ (Heap.le.refl _) ?_;refine⟨?_,rfl⟩;unfold sumQ;rw[if_neg (by simpa using hc63),if_neg hxz,if_neg (by simpa using hc105)];rfl
theorem fAdd_calls(a b:Nat)(ha:a<18446744073709551616)(hb:b<18446744073709551616)(H:Heap):ACall Tryz.prog 61 [.int .u64 (a:Int),.int .u64 (b:Int)] H (λy H'=>y= .int .u64 ((faddN a b:Nat):Int)∧H'=H):=by
  refine ACall.of_body Tryz.func61 rfl Tryz.ntmps61 Tryz.results61 rfl ?_;refine .sr ?_;refine .p rfl (pure_assign (ev_nat 0)) ?_;refine .ng ?_;refine .seq ?_;refine .sr ?_;refine .mv rfl rfl ?_;refine .mv rfl rfl ?_;refine .cl rfl Tryz.call125 (evs2 rfl rfl) (adds_calls a b ha hb _) ?_;refine .ng ?_;refine .block ?_;refine .sr ?_;refine .p rfl (pure_eql (tm rfl) ev_int) ?_;refine .as rfl rfl ?_;refine .ng ?_;refine AWP.cond (tm rfl) (λhc8=>?_) (λhc8=>?_)
  · try simp only[decide_eq_true_eq]at hc8
    refine .sr ?_;refine .p rfl (pure_assign (ev_nat 9221120237041090560)) ?_;refine .ng ?_;refine .ret ?_;refine Block.rt ?_;refine Next.rt ?_;refine Ret.go (.cons (.tmp _ _ rfl) .nil) _ (Heap.le.refl _) ?_;refine⟨?_,rfl⟩;unfold faddN;first
    |(rw[if_pos (by assumption)];rfl)
    |(rw[if_neg (by assumption),if_pos (by assumption)];rfl)
    |(rw[if_neg (by assumption),if_neg (by assumption),if_pos (by assumption)];rfl)
    |(rw[if_neg (by assumption),if_neg (by assumption),if_neg (by assumption),if_pos (by assumption),if_pos (by omega)];rfl)
    |(rw[if_neg (by assumption),if_neg (by assumption),if_neg (by assumption),if_pos (by assumption),if_neg (by omega),if_pos (by omega)];rfl)
    |(rw[if_neg (by assumption),if_neg (by assumption),if_neg (by assumption),if_pos (by assumption),if_neg (by omega),if_neg (by omega)];rfl)
    |(rw[if_neg (by assumption),if_neg (by assumption),if_neg (by assumption),if_neg (by assumption)];rfl)
  try simp only[decide_eq_false_iff_not]at hc8
  refine .sr ?_;refine .p rfl (pure_eql (tm rfl) ev_int) ?_;refine .as rfl rfl ?_;refine .ng ?_;refine AWP.cond (tm rfl) (λhc10=>?_) (λhc10=>?_)
  · try simp only[decide_eq_true_eq]at hc10
    refine .sr ?_;refine .mv rfl rfl ?_;refine .as rfl rfl ?_;refine .ng ?_;refine .ret ?_;refine Block.rt ?_;refine Next.rt ?_;refine Ret.go (.cons (.tmp _ _ rfl) .nil) _ (Heap.le.refl _) ?_;refine⟨?_,rfl⟩;unfold faddN;first
    |(rw[if_pos (by assumption)];rfl)
    |(rw[if_neg (by assumption),if_pos (by assumption)];rfl)
    |(rw[if_neg (by assumption),if_neg (by assumption),if_pos (by assumption)];rfl)
    |(rw[if_neg (by assumption),if_neg (by assumption),if_neg (by assumption),if_pos (by assumption),if_pos (by omega)];rfl)
    |(rw[if_neg (by assumption),if_neg (by assumption),if_neg (by assumption),if_pos (by assumption),if_neg (by omega),if_pos (by omega)];rfl)
    |(rw[if_neg (by assumption),if_neg (by assumption),if_neg (by assumption),if_pos (by assumption),if_neg (by omega),if_neg (by omega)];rfl)
    |(rw[if_neg (by assumption),if_neg (by assumption),if_neg (by assumption),if_neg (by assumption)];rfl)
  try simp only[decide_eq_false_iff_not]at hc10
  refine .sr ?_;refine .p rfl (pure_eql (tm rfl) ev_int) ?_;refine .as rfl rfl ?_;refine .ng ?_;refine AWP.cond (tm rfl) (λhc13=>?_) (λhc13=>?_)
  · try simp only[decide_eq_true_eq]at hc13
    refine .sr ?_;refine .mv rfl rfl ?_;refine .as rfl rfl ?_;refine .ng ?_;refine .ret ?_;refine Block.rt ?_;refine Next.rt ?_;refine Ret.go (.cons (.tmp _ _ rfl) .nil) _ (Heap.le.refl _) ?_;refine⟨?_,rfl⟩;unfold faddN;first
    |(rw[if_pos (by assumption)];rfl)
    |(rw[if_neg (by assumption),if_pos (by assumption)];rfl)
    |(rw[if_neg (by assumption),if_neg (by assumption),if_pos (by assumption)];rfl)
    |(rw[if_neg (by assumption),if_neg (by assumption),if_neg (by assumption),if_pos (by assumption),if_pos (by omega)];rfl)
    |(rw[if_neg (by assumption),if_neg (by assumption),if_neg (by assumption),if_pos (by assumption),if_neg (by omega),if_pos (by omega)];rfl)
    |(rw[if_neg (by assumption),if_neg (by assumption),if_neg (by assumption),if_pos (by assumption),if_neg (by omega),if_neg (by omega)];rfl)
    |(rw[if_neg (by assumption),if_neg (by assumption),if_neg (by assumption),if_neg (by assumption)];rfl)
  try simp only[decide_eq_false_iff_not]at hc13
  refine .sr ?_;refine .p rfl (pure_eql (tm rfl) ev_int) ?_;refine .as rfl rfl ?_;refine .ng ?_;refine AWP.cond (tm rfl) (λhc16=>?_) (λhc16=>?_)
  · try simp only[decide_eq_true_eq]at hc16
    refine .seq ?_;refine .block ?_;refine .sr ?_;refine .mv rfl rfl ?_;refine .mv rfl rfl ?_;refine .p rfl (pure_eql (tm rfl) (tm rfl)) ?_;refine .as rfl rfl ?_;refine .ng ?_;refine AWP.cond (tm rfl) (λhc18=>?_) (λhc18=>?_)
    · try simp only[decide_eq_true_eq]at hc18
      refine .sr ?_;refine .mv rfl rfl ?_;refine .as rfl rfl ?_;refine .ng ?_;refine .ret ?_;refine Block.rt ?_;refine Next.rt ?_;refine Block.rt ?_;refine Next.rt ?_;refine Ret.go (.cons (.tmp _ _ rfl) .nil) _ (Heap.le.refl _) ?_;refine⟨?_,rfl⟩;unfold faddN;first
      |(rw[if_pos (by assumption)];rfl)
      |(rw[if_neg (by assumption),if_pos (by assumption)];rfl)
      |(rw[if_neg (by assumption),if_neg (by assumption),if_pos (by assumption)];rfl)
      |(rw[if_neg (by assumption),if_neg (by assumption),if_neg (by assumption),if_pos (by assumption),if_pos (by omega)];rfl)
      |(rw[if_neg (by assumption),if_neg (by assumption),if_neg (by assumption),if_pos (by assumption),if_neg (by omega),if_pos (by omega)];rfl)
      |(rw[if_neg (by assumption),if_neg (by assumption),if_neg (by assumption),if_pos (by assumption),if_neg (by omega),if_neg (by omega)];rfl)
      |(rw[if_neg (by assumption),if_neg (by assumption),if_neg (by assumption),if_neg (by assumption)];rfl)
    try simp only[decide_eq_false_iff_not]at hc18
    refine .sr ?_;refine .mv rfl rfl ?_;refine .cl rfl Tryz.call92 (evs1 rfl) (Kind_calls _ (by assumption) _) ?_;refine .p rfl (pure_eql (tm rfl) ev_int) ?_;refine .as rfl rfl ?_;refine .ng ?_;refine AWP.cond (tm rfl) (λhc23=>?_) (λhc23=>?_)
    · try simp only[decide_eq_true_eq]at hc23
      refine .sr ?_;refine .p rfl (pure_assign (ev_nat 9221120237041090560)) ?_;refine .ng ?_;refine .ret ?_;refine Block.rt ?_;refine Next.rt ?_;refine Block.rt ?_;refine Next.rt ?_;refine Ret.go (.cons (.tmp _ _ rfl) .nil) _ (Heap.le.refl _) ?_;refine⟨?_,rfl⟩;unfold faddN;first
      |(rw[if_pos (by assumption)];rfl)
      |(rw[if_neg (by assumption),if_pos (by assumption)];rfl)
      |(rw[if_neg (by assumption),if_neg (by assumption),if_pos (by assumption)];rfl)
      |(rw[if_neg (by assumption),if_neg (by assumption),if_neg (by assumption),if_pos (by assumption),if_pos (by omega)];rfl)
      |(rw[if_neg (by assumption),if_neg (by assumption),if_neg (by assumption),if_pos (by assumption),if_neg (by omega),if_pos (by omega)];rfl)
      |(rw[if_neg (by assumption),if_neg (by assumption),if_neg (by assumption),if_pos (by assumption),if_neg (by omega),if_neg (by omega)];rfl)
      |(rw[if_neg (by assumption),if_neg (by assumption),if_neg (by assumption),if_neg (by assumption)];rfl)
    try simp only[decide_eq_false_iff_not]at hc23
    refine .skip ?_;refine Block.go ?_;refine Next.go ?_;refine .sr ?_;refine .p rfl (pure_assign (ev_nat 0)) ?_;refine .ng ?_;refine .ret ?_;refine Block.rt ?_;refine Next.rt ?_;refine Ret.go (.cons (.tmp _ _ rfl) .nil) _ (Heap.le.refl _) ?_;refine⟨?_,rfl⟩;unfold faddN;first
    |(rw[if_pos (by assumption)];rfl)
    |(rw[if_neg (by assumption),if_pos (by assumption)];rfl)
    |(rw[if_neg (by assumption),if_neg (by assumption),if_pos (by assumption)];rfl)
    |(rw[if_neg (by assumption),if_neg (by assumption),if_neg (by assumption),if_pos (by assumption),if_pos (by omega)];rfl)
    |(rw[if_neg (by assumption),if_neg (by assumption),if_neg (by assumption),if_pos (by assumption),if_neg (by omega),if_pos (by omega)];rfl)
    |(rw[if_neg (by assumption),if_neg (by assumption),if_neg (by assumption),if_pos (by assumption),if_neg (by omega),if_neg (by omega)];rfl)
    |(rw[if_neg (by assumption),if_neg (by assumption),if_neg (by assumption),if_neg (by assumption)];rfl)
  try simp only[decide_eq_false_iff_not]at hc16
  refine .skip ?_;refine Block.go ?_;refine Next.go ?_;refine .sr ?_;refine .mv rfl rfl ?_;refine .mv rfl rfl ?_;refine .cl rfl Tryz.call126 (evs2 rfl rfl) (sum_calls a b ha hb _) ?_;refine .as rfl rfl ?_;refine .ng ?_;refine .ret ?_;refine Ret.go (.cons (.tmp _ _ rfl) .nil) _ (Heap.le.refl _) ?_;refine⟨?_,rfl⟩;unfold faddN;first
  |(rw[if_pos (by assumption)];rfl)
  |(rw[if_neg (by assumption),if_pos (by assumption)];rfl)
  |(rw[if_neg (by assumption),if_neg (by assumption),if_pos (by assumption)];rfl)
  |(rw[if_neg (by assumption),if_neg (by assumption),if_neg (by assumption),if_pos (by assumption),if_pos (by omega)];rfl)
  |(rw[if_neg (by assumption),if_neg (by assumption),if_neg (by assumption),if_pos (by assumption),if_neg (by omega),if_pos (by omega)];rfl)
  |(rw[if_neg (by assumption),if_neg (by assumption),if_neg (by assumption),if_pos (by assumption),if_neg (by omega),if_neg (by omega)];rfl)
  |(rw[if_neg (by assumption),if_neg (by assumption),if_neg (by assumption),if_neg (by assumption)];rfl)
theorem and_sign{a:Nat}(h:a<18446744073709551616):a-(a&&&9223372036854775808)=a%9223372036854775808:=by
  have e:a&&&9223372036854775808=if a.testBit 63 then 9223372036854775808 else 0:=by
    apply Nat.eq_of_testBit_eq;intro i;rw[Nat.testBit_and,show(9223372036854775808:Nat)=2^63 by decide,Nat.testBit_two_pow];by_cases hi:63=i
    · subst hi;cases a.testBit 63
      · simp
      simp only[decide_true,Bool.and_self,if_true];rw[Nat.testBit_two_pow];simp
    cases a.testBit 63
    · simp[hi]
    simp only[hi,decide_false,Bool.and_false,if_true];rw[Nat.testBit_two_pow];simp[hi]
  rw[e,Nat.testBit_eq_decide_div_mod_eq];have h2:(2:Nat)^63=9223372036854775808:=by decide
  rw[h2];split<;>simp_all<;>omega
def absN(x:Nat):Nat:=if kindN x=4 then nanN else x%9223372036854775808
theorem fAbs_calls(a:Nat)(ha:a<18446744073709551616)(H:Heap):ACall Tryz.prog 78 [.int .u64 (a:Int)] H (λy H'=>y= .int .u64 ((absN a:Nat):Int)∧H'=H):=by
  refine ACall.of_body Tryz.func78 rfl Tryz.ntmps78 Tryz.results78 rfl ?_;refine .sr ?_;refine .p rfl (pure_assign (ev_nat 0)) ?_;refine .ng ?_;refine .seq ?_;refine .sr ?_;refine .mv rfl rfl ?_;refine .cl rfl Tryz.call92 (evs1 rfl) (Kind_calls _ (by assumption) _) ?_;refine .p rfl (pure_eql (tm rfl) ev_int) ?_;refine .ng ?_;refine AWP.cond (tm rfl) (λhc5=>?_) (λhc5=>?_)
  · try simp only[decide_eq_true_eq]at hc5
    refine .sr ?_;refine .p rfl (pure_assign (ev_nat 9221120237041090560)) ?_;refine .ng ?_;refine .ret ?_;refine Next.rt ?_;refine Ret.go (.cons (.tmp _ _ rfl) .nil) _ (Heap.le.refl _) ?_;refine⟨?_,rfl⟩;unfold absN;first
    |(rw[if_pos (by omega)];rfl)
    |(rw[if_neg (by omega),←and_sign ha];rfl)
  try simp only[decide_eq_false_iff_not]at hc5
  refine .skip ?_;refine Next.go ?_;refine .sr ?_;refine .mv rfl rfl ?_;refine .p rfl (pure_andNot64 (tm rfl) (ev_nat 9223372036854775808) (by assumption) (by omega)) ?_;refine .as rfl rfl ?_;refine .ng ?_;refine .ret ?_;refine Ret.go (.cons (.tmp _ _ rfl) .nil) _ (Heap.le.refl _) ?_;refine⟨?_,rfl⟩;unfold absN;first
  |(rw[if_pos (by omega)];rfl)
  |(rw[if_neg (by omega),←and_sign ha];rfl)
end Go.Proofs.YtojblnldfdeefaaGreatDoor
