/-
  A number of 128 bits over one of 64 (plain): two digits of 32 bits, each guessed from above.
-/
import Derived.Test.YtojblnldfdeefaaGreatDoorP2x
namespace Go.Proofs.YtojblnldfdeefaaGreatDoor
open Go Go.RowKit
theorem dig_stop{B u u1 y1 y0 q r:Nat}(hi:q*y1+r=u)(_:¬B≤q)(h:¬B*r+u1<q*y0)(hy:0<y1*B+y0)(hq:(u*B+u1)/(y1*B+y0)≤q):q=(u*B+u1)/(y1*B+y0):=by
  refine Nat.le_antisymm ?_ hq;rw[Nat.le_div_iff_mul_le hy,Nat.mul_add,←hi,Nat.add_mul,←Nat.mul_assoc,Nat.mul_comm r B];omega
theorem dig_down{B u u1 y1 y0 q r:Nat}(hi:q*y1+r=u)(_:0<B)(hu:u<y1*B+y0)(h1:u1<B)(h:B≤q∨B*r+u1<q*y0)(_:(u*B+u1)/(y1*B+y0)≤q):
    1≤q∧(u*B+u1)/(y1*B+y0)≤q-1∧(q-1)*y1+(r+y1)=u:=by
  have hy:0<y1*B+y0:=by omega
  have hlt:(u*B+u1)/(y1*B+y0)<q:=by
    rcases h with h|h
    · refine Nat.lt_of_lt_of_le ?_ h;rw[Nat.div_lt_iff_lt_mul hy];have h3:=Nat.mul_le_mul_right B (show u+1≤y1*B+y0 from hu);rw[Nat.add_mul,Nat.one_mul]at h3;rw[Nat.mul_comm B (y1*B+y0)];omega
    rw[Nat.div_lt_iff_lt_mul hy,Nat.mul_add,←hi,Nat.add_mul,←Nat.mul_assoc,Nat.mul_comm r B];omega
  have hp:1≤q:=Nat.lt_of_le_of_lt (Nat.zero_le _) hlt;refine⟨hp,Nat.le_sub_one_of_lt hlt,?_⟩;have h5:q*y1=(q-1)*y1+y1:=by
    rw[←Nat.succ_mul,Nat.succ_eq_add_one,Nat.sub_add_cancel hp]
  omega
theorem dig_break{B u u1 y1 y0 q r:Nat}(hi:q*y1+r=u)(hq1:q≤B)(h0:y0≤B)(hr:B≤r)(hy:0<y1*B+y0)(hq:(u*B+u1)/(y1*B+y0)≤q):q=(u*B+u1)/(y1*B+y0):=by
  refine Nat.le_antisymm ?_ hq;have h3:q*y0≤B*r:=Nat.mul_le_mul hq1 (Nat.le_trans h0 hr);rw[Nat.le_div_iff_mul_le hy,Nat.mul_add,←hi,Nat.add_mul,←Nat.mul_assoc,Nat.mul_comm r B];omega
theorem dig_first{B u y1 y0 u1:Nat}(hB:B≤2*y1)(h0:y0<B)(h1:u1<B)(hu:u<y1*B+y0):u/y1≤B+1∧(u*B+u1)/(y1*B+y0)≤u/y1:=by
  have hy1:0<y1:=by omega
  have hy:0<y1*B+y0:=by omega
  constructor
  · refine Nat.le_of_lt_succ ?_;rw[Nat.div_lt_iff_lt_mul hy1,Nat.succ_eq_add_one,Nat.add_mul,Nat.add_mul,Nat.one_mul,Nat.mul_comm B y1];omega
  refine Nat.le_of_lt_succ ?_;have hd:=Nat.div_add_mod u y1;have hm:=Nat.mod_lt u hy1;rw[Nat.div_lt_iff_lt_mul hy,Nat.succ_eq_add_one,Nat.mul_add];generalize u/y1=q at *;have e1:(q+1)*(y1*B)=(y1*q+y1)*B:=by rw[←Nat.mul_assoc,Nat.add_mul,Nat.one_mul,Nat.mul_comm q y1]
  have e2:(u+1)*B≤(y1*q+y1)*B:=Nat.mul_le_mul_right B (by omega);rw[Nat.add_mul,Nat.one_mul]at e2;omega
theorem div_digs{B Y a u0:Nat}(hY:0<Y):(a*B+u0)/Y=a/Y*B+(a%Y*B+u0)/Y∧(a*B+u0)%Y=(a%Y*B+u0)%Y:=by
  have hd:=Nat.div_add_mod a Y;have e:a*B+u0=Y*(a/Y*B)+(a%Y*B+u0):=by
    have:a*B=Y*(a/Y*B)+a%Y*B:=by
      rw[←Nat.mul_assoc,←Nat.add_mul,hd]
    omega
  constructor
  · rw[e,Nat.mul_add_div hY]
  rw[e,Nat.mul_add_mod]
theorem left_wrap{M u q Y a:Nat}(hM:Y≤M)(hq:q=u/Y)(hY:0<Y)(ha:a%M=u%M):(a+(M-q*Y%M))%M=u%Y:=by
  have hd:=Nat.div_add_mod u Y;have hm:=Nat.mod_lt u hY;have hM0:0<M:=Nat.lt_of_lt_of_le hY hM;rw[←hq,Nat.mul_comm Y q]at hd;have h1:(a+(M-q*Y%M))%M=(u+(M-q*Y%M))%M:=by rw[Nat.add_mod,ha,←Nat.add_mod]
  rw[h1,←hd];have hl:=Nat.mod_lt (q*Y) hM0;have hdm:=Nat.div_add_mod (q*Y) M;have e:q*Y+u%Y+(M-q*Y%M)=u%Y+M*(q*Y/M+1):=by
    rw[Nat.mul_add,Nat.mul_one];omega
  have e3:(q*Y+u%Y)%Y=u%Y:=by rw[hd]
  rw[e3,e,Nat.add_mul_mod_self_left,Nat.mod_eq_of_lt (Nat.lt_of_lt_of_le hm hM)]
theorem div64_split{hi lo s:Nat}(hs:s≤64):(hi*18446744073709551616+lo)*2^s=((hi*2^s+lo/2^(64-s))*4294967296+lo*2^s%18446744073709551616/4294967296)*4294967296+lo*2^s%18446744073709551616%4294967296:=by
  have e1:lo/2^(64-s)=lo*2^s/18446744073709551616:=by
    have h64:(18446744073709551616:Nat)=2^(64-s)*2^s:=by rw[←Nat.pow_add,Nat.sub_add_cancel hs]
    rw[h64,Nat.mul_div_mul_right _ _ (Nat.pow_pos (by decide))]
  rw[e1,Nat.add_mul,Nat.mul_right_comm];generalize lo*2^s=a;generalize hi*2^s=b;omega
theorem div64_end{x y s Y u32 u1 u0 B:Nat}(hy:0<y)(hY:Y=y*2^s)(hU:x*2^s=(u32*B+u1)*B+u0):
    (u32*B+u1)/Y*B+((u32*B+u1)%Y*B+u0)/Y=x/y∧((u32*B+u1)%Y*B+u0)%Y/2^s=x%y:=by
  have hp:0<2^s:=Nat.pow_pos (by decide);have hY0:0<Y:=by rw[hY];exact Nat.mul_pos hy hp
  obtain⟨h1,h2⟩:=div_digs (B:=B) (a:=u32*B+u1) (u0:=u0) hY0;rw[←h1,←h2,←hU,hY,Nat.mul_div_mul_right _ _ hp,Nat.mul_mod_mul_right,Nat.mul_div_cancel _ hp];exact⟨rfl,rfl⟩
theorem half_down{m k:Nat}(hk:0<k):m/2^(k-1)/2=m/2^k:=by
  obtain⟨j,rfl⟩:∃j,k=j+1:=⟨k-1,by omega⟩;rw[Nat.add_sub_cancel,Nat.div_div_eq_div_mul,Nat.pow_succ]
end Go.Proofs.YtojblnldfdeefaaGreatDoor
namespace Go.Proofs.YtojblnldfdeefaaGreatDoor
open Go Go.RowKit
set_option maxRecDepth 100000
theorem and_mask32(x:Nat):x&&&4294967295=x%4294967296:=Nat.and_two_pow_sub_one_eq_mod x 32
theorem norm_64{y:Nat}(h0:0<y)(h:y<18446744073709551616):64-blen y≤64∧y*2^(64-blen y)<18446744073709551616∧9223372036854775808≤y*2^(64-blen y):=by
  have hb:blen y≤64:=blen_le.2 (Nat.lt_of_lt_of_eq h (by decide));have h1:0<blen y:=lt_blen.2 (by rw[Nat.pow_zero];exact h0);have h2:y<2^blen y:=blen_le.1 (Nat.le_refl _);have h3:2^(blen y-1)≤y:=lt_blen.1 (by omega);refine⟨by omega,?_,?_⟩
  · have:=(Nat.mul_lt_mul_right (a:=2^(64-blen y)) (Nat.pow_pos (by decide))).2 h2;rw[←Nat.pow_add,show blen y+(64-blen y)=64 by omega]at this;exact Nat.lt_of_lt_of_eq this (by decide)
  have:=Nat.mul_le_mul_right (2^(64-blen y)) h3;rw[←Nat.pow_add,show blen y-1+(64-blen y)=63 by omega]at this;exact Nat.le_trans (by decide) this
theorem un_lt{hi lo y s:Nat}(hs:s≤64)(h:hi<y)(hl:lo<18446744073709551616):lo/2^(64-s)<2^s∧hi*2^s+lo/2^(64-s)<y*2^s:=by
  have h1:lo/2^(64-s)<2^s:=by
    rw[Nat.div_lt_iff_lt_mul (Nat.pow_pos (by decide)),←Nat.pow_add,show s+(64-s)=64 by omega];exact Nat.lt_of_lt_of_eq hl (by decide)
  have h2:=Nat.mul_le_mul_right (2^s) (show hi+1≤y from h);rw[Nat.add_mul,Nat.one_mul]at h2;exact⟨h1,by omega⟩
def DigOK(u u1 y1 y0 q r:Nat):Prop:=q*y1+r=u∧q≤4294967297∧(u*4294967296+u1)/(y1*4294967296+y0)≤q∧r<4294967296
theorem dig_begin{u u1 y1 y0:Nat}(hy:2147483648≤y1)(hy1:y1<4294967296)(h0:y0<4294967296)(h1:u1<4294967296)(hu:u<y1*4294967296+y0):DigOK u u1 y1 y0 (u/y1) (u-u/y1*y1):=by
  obtain⟨a,b⟩:=dig_first (B:=4294967296) (by omega) h0 h1 hu;have hd:=Nat.div_add_mod u y1;have hm:=Nat.mod_lt u (show 0<y1 by omega);rw[Nat.mul_comm]at hd;exact⟨by omega,a,b,by omega⟩
theorem dig_end{u u1 y1 y0 q r:Nat}(hk:DigOK u u1 y1 y0 q r)(hy:0<y1*4294967296+y0)(h1:¬4294967296≤q)(h:¬4294967296*r+u1<q*y0):q=(u*4294967296+u1)/(y1*4294967296+y0):=dig_stop hk.1 h1 h hy hk.2.2.1
theorem dig_next{u u1 y1 y0 q r:Nat}(hk:DigOK u u1 y1 y0 q r)(hu:u<y1*4294967296+y0)(h1:u1<4294967296)(h:4294967296≤q∨4294967296*r+u1<q*y0):1≤q∧(q-1)*y1+(r+y1)=u∧(u*4294967296+u1)/(y1*4294967296+y0)≤q-1:=by
  obtain⟨a,b,c⟩:=dig_down hk.1 (by decide) hu h1 h hk.2.2.1;exact⟨a,c,b⟩
theorem dig_out{u u1 y1 y0 q r:Nat}(hq:q≤4294967297)(h1:1≤q)(hn:(q-1)*y1+(r+y1)=u)(hb:(u*4294967296+u1)/(y1*4294967296+y0)≤q-1)(h0:y0<4294967296)(hr:4294967296≤r+y1)(hy:0<y1*4294967296+y0):q-1=(u*4294967296+u1)/(y1*4294967296+y0):=dig_break hn (by omega) (Nat.le_of_lt h0) hr hy hb
theorem dig_lt{u u1 Y:Nat}(h1:u1<4294967296)(hu:u<Y):(u*4294967296+u1)/Y<4294967296:=by
  rw[Nat.div_lt_iff_lt_mul (by omega)];have:=Nat.mul_le_mul_right 4294967296 (show u+1≤Y from hu);rw[Nat.add_mul,Nat.one_mul,Nat.mul_comm Y]at this;omega
theorem left_64{u u1 q Y:Nat}(hM:Y≤18446744073709551616)(hq:q=(u*4294967296+u1)/Y)(hY:0<Y):((u*4294967296%18446744073709551616+u1)%18446744073709551616+(18446744073709551616-q*Y%18446744073709551616))%18446744073709551616=(u*4294967296+u1)%Y:=
  left_wrap hM hq hY (by omega)
theorem qy_lt{q y:Nat}(h1:q<4294967296)(h2:y<4294967296):q*y<18446744073709551616:=Nat.lt_of_le_of_lt (Nat.mul_le_mul (Nat.le_pred_of_lt h1) (Nat.le_pred_of_lt h2)) (by decide)
theorem Lz64_calls(x:Nat)(hx:x<18446744073709551616)(H:Heap):ACall Tryz.prog 281 [.int .u64 (x:Int)] H (λy H'=>y= .int .i64 ((64-blen x:Nat):Int)∧H'=H):=by
  have hb:=(blen_le (n:=x) (k:=64)).2 (Nat.lt_of_lt_of_eq hx (by decide));refine ACall.of_body Tryz.func281 rfl Tryz.ntmps281 Tryz.results281 rfl ?_;refine .sr ?_;refine .p rfl (pure_assign ev_int) ?_;refine .nr ?_;refine .mv rfl rfl ?_;refine .cl rfl Tryz.call210 (evs1 rfl) (len64A _ (by assumption) _) ?_;refine .p rfl (pure_sub ev_int (tm rfl) (by omega)) ?_;refine .as rfl rfl ?_;refine .ng ?_;refine .ret ?_;refine Ret.go (.cons (.tmp _ _ rfl) .nil) _ (Heap.le.refl _) ?_;refine⟨?_,rfl⟩;simp only[packed];congr 1;omega
def div_J(Y s y1 y0 u32 u1 u0 _ _:Nat)(H:Heap):Nat→Env→Heap→Prop:=λk env H1=>∃q r:Nat,DigOK u32 u1 y1 y0 q r∧env=[(2,.int .u64 ((Y:Nat):Int)),(6,.int .u64 ((0:Nat):Int)),(7,.int .u64 ((0:Nat):Int)),(8,.int .u64 ((s:Nat):Int)),(9,.int .u64 ((y1:Nat):Int)),(10,.int .u64 ((y0:Nat):Int)),(11,.int .u64 ((u32:Nat):Int)),(13,.int .u64 ((u1:Nat):Int)),(14,.int .u64 ((u0:Nat):Int)),(15,.int .u64 ((q:Nat):Int)),(16,.int .u64 ((r:Nat):Int))]∧H=H1∧k=q
def div_K(Y s y1 y0 _ _ u0 u21 q1:Nat)(H:Heap):Nat→Env→Heap→Prop:=λk env H1=>∃q r:Nat,DigOK u21 u0 y1 y0 q r∧env=[(2,.int .u64 ((Y:Nat):Int)),(6,.int .u64 ((0:Nat):Int)),(7,.int .u64 ((0:Nat):Int)),(8,.int .u64 ((s:Nat):Int)),(9,.int .u64 ((y1:Nat):Int)),(10,.int .u64 ((y0:Nat):Int)),(14,.int .u64 ((u0:Nat):Int)),(15,.int .u64 ((q1:Nat):Int)),(16,.int .u64 ((r:Nat):Int)),(17,.int .u64 ((u21:Nat):Int)),(18,.int .u64 ((q:Nat):Int))]∧H=H1∧k=q
theorem Div64_calls(hi lo y:Nat)(hh:hi<y)(hl:lo<18446744073709551616)(hy:y<18446744073709551616)(H:Heap):ACall Tryz.prog 211 [.int .u64 (hi:Int),.int .u64 (lo:Int),.int .u64 (y:Int)] H (λz H'=>z= .tuple [.int .u64 (((hi*18446744073709551616+lo)/y:Nat):Int),.int .u64 (((hi*18446744073709551616+lo)%y:Nat):Int)]∧H'=H):=by
  obtain⟨hs64,hYlt0,hYge0⟩:=norm_64 (show 0<y by omega) hy;obtain⟨s,hs⟩:∃s,s=64-blen y:=⟨_,rfl⟩;rw[←hs]at hs64 hYlt0 hYge0;obtain⟨hlo2,hun0⟩:=un_lt hs64 hh hl;have hhi:hi*2^s<18446744073709551616:=Nat.lt_trans (Nat.lt_of_le_of_lt (Nat.le_add_right _ _) hun0) hYlt0;refine ACall.of_body Tryz.func211 rfl Tryz.ntmps211 Tryz.results211 rfl ?_;refine .sr ?_;refine .p rfl (pure_assign (ev_nat 0)) ?_;refine .p rfl (pure_assign (ev_nat 0)) ?_;refine .ng ?_;refine .seq ?_;refine .sr ?_;refine .mv rfl rfl ?_;refine .p rfl (pure_eql (tm rfl) (ev_nat 0)) ?_;refine .ng ?_;refine AWP.cond_false (tm rfl) (by exact decide_eq_false (by omega)) ?_;refine .skip ?_;refine Next.go ?_;refine .seq ?_;refine .sr ?_;refine .mv rfl rfl ?_;refine .mv rfl rfl ?_;refine .p rfl (pure_leq (tm rfl) (tm rfl)) ?_;refine .ng ?_;refine AWP.cond_false (tm rfl) (by exact decide_eq_false (by omega)) ?_;refine .skip ?_;refine Next.go ?_;refine .seq ?_;refine .sr ?_;refine .mv rfl rfl ?_;refine .p rfl (pure_eql (tm rfl) (ev_nat 0)) ?_;refine .ng ?_;refine AWP.cond (tm rfl) (λhc27=>?_) (λhc27=>?_)
  · try simp only[decide_eq_true_eq]at hc27
    refine .seq ?_;refine AWP.draw [(0,true),(1,true),(2,true),(3,true),(4,true),(5,true),(6,true),(7,true)] rfl (by decide+kernel) ?_;refine .p rfl rfl (pure_move (tm rfl)) ?_;refine .p rfl rfl (pure_move (tm rfl)) ?_;refine .p rfl rfl (pure_quo64 (tm rfl) (tm rfl) (by assumption) (by omega)) ?_;refine .p rfl rfl (pure_move (tm rfl)) ?_;refine .p rfl rfl (pure_move (tm rfl)) ?_;refine .p rfl rfl (pure_rem64 (tm rfl) (tm rfl) (by omega)) ?_;refine .p rfl rfl (pure_assign (tm rfl)) ?_;refine .p rfl rfl (pure_assign (tm rfl)) ?_;refine .nil ?_;refine Next.go ?_;refine .ret ?_;refine Next.rt ?_;refine Ret.go (.cons (.tmp _ _ rfl) (.cons (.tmp _ _ rfl) .nil)) _ (Heap.le.refl _) ?_;refine⟨?_,rfl⟩;have h0:hi=0:=by omega
    rw[h0,Nat.zero_mul,Nat.zero_add];rfl
  try simp only[decide_eq_false_iff_not]at hc27
  refine .skip ?_;refine Next.go ?_;refine .sr ?_;refine .mv rfl rfl ?_;refine .cl rfl Tryz.call281 (evs1 rfl) (Lz64_calls y hy _) ?_;rw[←hs];refine .p rfl (pure_convX Tryz.underlying3 Tryz.underlying73 (tm rfl) (wrapN64 (by omega))) ?_;refine .as rfl rfl ?_;refine .nr ?_;refine .mv rfl rfl ?_;refine .mv rfl rfl ?_;refine .p rfl (pure_shlX64 (tm rfl) (tm rfl) (by omega) (by exact hYlt0)) ?_;refine .as rfl rfl ?_;refine .nr ?_;refine .mv rfl rfl ?_;refine .p rfl (pure_shr64 (tm rfl) (ev_nat 32) (by assumption)) ?_;refine .as rfl rfl ?_;refine .nr ?_;refine .mv rfl rfl ?_;refine .p rfl (pure_and64 (tm rfl) (ev_nat 4294967295) (by assumption) (by omega)) ?_;refine .as rfl rfl ?_;refine .nr ?_;refine .mv rfl rfl ?_;refine .mv rfl rfl ?_;refine .p rfl (pure_shlX64 (tm rfl) (tm rfl) (by omega) (by exact hhi)) ?_;refine .mv rfl rfl ?_;refine .mv rfl rfl ?_;refine .p rfl (pure_subX64 (ev_nat 64) (tm rfl) (by omega) (by omega)) ?_;refine .p rfl (pure_shr64 (tm rfl) (tm rfl) (by assumption)) ?_;refine .p rfl (pure_or64 (tm rfl) (tm rfl) (by assumption) (by omega)) ?_;refine .as rfl rfl ?_;refine .nr ?_;refine .mv rfl rfl ?_;refine .mv rfl rfl ?_;refine .p rfl (pure_shl64 (tm rfl) (tm rfl)) ?_;refine .as rfl rfl ?_;refine .nr ?_;refine .mv rfl rfl ?_;refine .p rfl (pure_shr64 (tm rfl) (ev_nat 32) (by omega)) ?_;refine .as rfl rfl ?_;refine .nr ?_;refine .mv rfl rfl ?_;refine .p rfl (pure_and64 (tm rfl) (ev_nat 4294967295) (by omega) (by omega)) ?_;refine .as rfl rfl ?_;refine .ng ?_;refine .seq ?_;have hor:(hi*2^s|||lo/2^(64-s))=hi*2^s+lo/2^(64-s):=or_add hlo2;have hdv:=div64_split (hi:=hi) (lo:=lo) hs64;rw[hor,and_mask32,and_mask32];have hpw:(2:Nat)^32=4294967296:=by decide
  rw[hpw];obtain⟨Y,hY⟩:∃Y,Y=y*2^s:=⟨_,rfl⟩;obtain⟨u32,hU⟩:∃u,u=hi*2^s+lo/2^(64-s):=⟨_,rfl⟩;obtain⟨un,hn⟩:∃u,u=lo*2^s%18446744073709551616:=⟨_,rfl⟩;rw[←hY,←hU,←hn];rw[←hn,←hU]at hdv;rw[←hY,←hU]at hun0;rw[←hY]at hYlt0 hYge0;have hun64:un<18446744073709551616:=by rw[hn];exact Nat.mod_lt _ (by decide)
  obtain⟨y1,hy1⟩:∃v,v=Y/4294967296:=⟨_,rfl⟩;obtain⟨y0,hy0⟩:∃v,v=Y%4294967296:=⟨_,rfl⟩;obtain⟨u1,hu1⟩:∃v,v=un/4294967296:=⟨_,rfl⟩;obtain⟨u0,hu0⟩:∃v,v=un%4294967296:=⟨_,rfl⟩;rw[←hy1,←hy0,←hu1,←hu0];rw[←hu1,←hu0]at hdv;have hYs:Y=y1*4294967296+y0:=by omega
  have hly0:y0<4294967296:=by omega
  have hly1:2147483648≤y1∧y1<4294967296:=by omega
  have hlu1:u1<4294967296:=by omega
  have hlu0:u0<4294967296:=by omega
  have hu64:u32<18446744073709551616:=by omega
  have hY0:0<y1*4294967296+y0:=by omega
  have hu32:u32<Y:=hun0;have hbeg:=dig_begin hly1.1 hly1.2 hly0 hlu1 (by rw[←hYs];exact hu32);have hyp:0<y:=by omega
  clear hun64 hhi hor;refine .region ?_;refine .mv rfl rfl ?_;refine .mv rfl rfl ?_;refine .p rfl (pure_quo64 (tm rfl) (tm rfl) (by assumption) (by omega)) ?_;refine .as rfl rfl ?_;refine .nr ?_;refine .mv rfl rfl ?_;refine .mv rfl rfl ?_;refine .mv rfl rfl ?_;refine .p rfl (pure_mulX64 (tm rfl) (tm rfl) (by exact Nat.lt_of_le_of_lt (Nat.div_mul_le_self _ _) hu64)) ?_;refine .p rfl (pure_subX64 (tm rfl) (tm rfl) (Nat.div_mul_le_self _ _) (hu64)) ?_;refine .as rfl rfl ?_;refine .ng ?_;refine AWP.meet (λenv H2=>env=[(2,.int .u64 ((Y:Nat):Int)),(6,.int .u64 ((0:Nat):Int)),(7,.int .u64 ((0:Nat):Int)),(8,.int .u64 ((s:Nat):Int)),(9,.int .u64 ((y1:Nat):Int)),(10,.int .u64 ((y0:Nat):Int)),(11,.int .u64 ((u32:Nat):Int)),(13,.int .u64 ((u1:Nat):Int)),(14,.int .u64 ((u0:Nat):Int)),(15,.int .u64 (((u32*4294967296+u1)/Y:Nat):Int))]∧H=H2) ?_ ?_
  · refine .block ?_;refine AWP.loopW (div_J Y s y1 y0 u32 u1 u0 0 0 H) (u32/y1) ⟨u32/y1,u32-u32/y1*y1,hbeg,rfl,rfl,rfl⟩ (sub_c rfl (sub_c rfl (sub_c rfl (sub_c rfl (sub_c rfl (sub_c rfl (sub_c rfl (sub_c rfl (sub_c rfl (sub_c rfl (sub_c rfl sub_n))))))))))) (Heap.le.refl _) ?_;rintro _ _ _ ⟨q,r,hdig,rfl,rfl,hk⟩;have hdd:=hdig;obtain⟨he1,he2,he3,he4⟩:=hdd;refine .seq ?_;refine AWP.seqTo 78 (.bool (decide (((4294967296:Nat):Int)≤(q:Int))||decide (((4294967296*r+u1:Nat):Int)<((q*y0:Nat):Int)))) [2,6,7,8,9,10,11,13,14,15,16] ?_ ?_
    · refine .region ?_;refine .mv rfl rfl ?_;refine .p rfl (pure_geq (tm rfl) (ev_nat 4294967296)) ?_;refine .mv rfl rfl ?_;refine bool_casesL (t:=69) rfl (λhg69=>?_) (λhg69=>?_)
      · have hh69:=hg69;try simp only[decide_eq_true_eq]at hh69
        refine .gn rfl rfl rfl (by assumption) ?_;refine .gn rfl rfl rfl (by assumption) ?_;refine .gn rfl rfl rfl (by assumption) ?_;refine .gn rfl rfl rfl (by assumption) ?_;refine .gn rfl rfl rfl (by assumption) ?_;refine .gn rfl rfl rfl (by assumption) ?_;refine .gn rfl rfl rfl (by assumption) ?_;refine .gn rfl rfl rfl (by assumption) ?_;refine .p rfl (pure_pickT (tm rfl) (by assumption) ev_bool) ?_;refine .nil ?_;exact⟨rfl,sub_b rfl (by(rw[hg69];rfl)) (sub_c rfl (sub_c rfl (sub_c rfl (sub_c rfl (sub_c rfl (sub_c rfl (sub_c rfl (sub_c rfl (sub_c rfl (sub_c rfl (sub_c rfl sub_n))))))))))),rfl⟩
      have hh69:=hg69;try simp only[decide_eq_false_iff_not,Int.not_le]at hh69
      refine .gp rfl rfl rfl (by assumption) (pure_move (tm rfl)) ?_;refine .gp rfl rfl rfl (by assumption) (pure_move (tm rfl)) ?_;refine .gp rfl rfl rfl (by assumption) (pure_mulX64 (tm rfl) (tm rfl) (by exact qy_lt (by omega) hly0)) ?_;refine .gp rfl rfl rfl (by assumption) (pure_move (tm rfl)) ?_;refine .gp rfl rfl rfl (by assumption) (pure_mulX64 (ev_nat 4294967296) (tm rfl) (by omega)) ?_;refine .gp rfl rfl rfl (by assumption) (pure_move (tm rfl)) ?_;refine .gp rfl rfl rfl (by assumption) (pure_addX64 (tm rfl) (tm rfl) (by omega)) ?_;refine .gp rfl rfl rfl (by assumption) (pure_gtr (tm rfl) (tm rfl)) ?_;refine .p rfl (pure_pickF (tm rfl) (by assumption) (tm rfl)) ?_;refine .nil ?_;exact⟨rfl,sub_b rfl (by(rw[hg69];rfl)) (sub_c rfl (sub_c rfl (sub_c rfl (sub_c rfl (sub_c rfl (sub_c rfl (sub_c rfl (sub_c rfl (sub_c rfl (sub_c rfl (sub_c rfl sub_n))))))))))),rfl⟩
    refine AWP.sub [(78,_),(2,_),(6,_),(7,_),(8,_),(9,_),(10,_),(11,_),(13,_),(14,_),(15,_),(16,_)] (sub_c rfl (sub_c rfl (sub_c rfl (sub_c rfl (sub_c rfl (sub_c rfl (sub_c rfl (sub_c rfl (sub_c rfl (sub_c rfl (sub_c rfl (sub_c rfl sub_n)))))))))))) ?_;refine AWP.cond (tm rfl) (λhc78=>?_) (λhc78=>?_)
    · try simp only[decide_eq_true_eq,decide_eq_false_iff_not,Bool.not_eq_true',Bool.not_eq_false',Int.not_lt,Int.not_le,ne_eq,Decidable.not_not]at hc78
      have hcq:4294967296≤q∨4294967296*r+u1<q*y0:=by simp only[Bool.or_eq_true,decide_eq_true_eq]at hc78;rcases hc78 with h|h;exact .inl (by exact_mod_cast h);exact .inr (by exact_mod_cast h)
      obtain⟨hq1,hqn,hqb⟩:=dig_next hdig (by rw[←hYs];exact hu32) hlu1 hcq;obtain⟨hd1,hd2,hd3,hd4⟩:=hdig;refine .skip ?_;refine Next.go ?_;refine .block ?_;refine .sr ?_;refine .mv rfl rfl ?_;refine .p rfl (pure_subX64 (tm rfl) (ev_nat 1) (by omega) (by omega)) ?_;refine .as rfl rfl ?_;refine .nr ?_;refine .mv rfl rfl ?_;refine .mv rfl rfl ?_;refine .p rfl (pure_addX64 (tm rfl) (tm rfl) (by omega)) ?_;refine .as rfl rfl ?_;refine .nr ?_;refine .mv rfl rfl ?_;refine .p rfl (pure_geq (tm rfl) (ev_nat 4294967296)) ?_;refine .ng ?_;refine AWP.cond (tm rfl) (λhc85=>?_) (λhc85=>?_)
      · try simp only[decide_eq_true_eq]at hc85
        refine .exit ?_;refine Block.miss rfl ?_;refine Next.ex ?_;refine Block.hit ?_;refine Next.go ?_;refine Meets.mk (M:=λenv H2=>env=[(2,.int .u64 ((Y:Nat):Int)),(6,.int .u64 ((0:Nat):Int)),(7,.int .u64 ((0:Nat):Int)),(8,.int .u64 ((s:Nat):Int)),(9,.int .u64 ((y1:Nat):Int)),(10,.int .u64 ((y0:Nat):Int)),(11,.int .u64 ((u32:Nat):Int)),(13,.int .u64 ((u1:Nat):Int)),(14,.int .u64 ((u0:Nat):Int)),(15,.int .u64 (((u32*4294967296+u1)/Y:Nat):Int))]∧H=H2) ⟨rfl,rfl⟩ (sub_c rfl (sub_c rfl (sub_c rfl (sub_c rfl (sub_c rfl (sub_c rfl (sub_c rfl (sub_c rfl (sub_c rfl (sub_e rfl (by rw[hYs,←dig_out hd2 hq1 hqn hqb hly0 (by omega) hY0]) sub_n)))))))))) (Heap.le.refl _)
      try simp only[decide_eq_false_iff_not,Int.not_le]at hc85
      refine .skip ?_;refine Block.go ?_;refine Next.go ?_;refine Round.mk (J:=div_J Y s y1 y0 u32 u1 u0 0 0 H) ⟨q-1,r+y1,⟨hqn,by omega,hqb,by omega⟩,rfl,rfl,rfl⟩ (sub_c rfl (sub_c rfl (sub_c rfl (sub_c rfl (sub_c rfl (sub_c rfl (sub_c rfl (sub_c rfl (sub_c rfl (sub_c rfl (sub_c rfl sub_n))))))))))) (Heap.le.refl _) (by omega)
    try simp only[decide_eq_true_eq,decide_eq_false_iff_not,Bool.not_eq_true',Bool.not_eq_false',Int.not_lt,Int.not_le,ne_eq,Decidable.not_not]at hc78
    have hcq:¬4294967296≤q∧¬4294967296*r+u1<q*y0:=by simp only[Bool.or_eq_false_iff,decide_eq_false_iff_not]at hc78;exact⟨λh=>hc78.1 (by exact_mod_cast h),λh=>hc78.2 (by exact_mod_cast h)⟩
    refine .exit ?_;refine Next.ex ?_;refine Next.ex ?_;refine Block.hit ?_;refine Next.go ?_;refine Meets.mk (M:=λenv H2=>env=[(2,.int .u64 ((Y:Nat):Int)),(6,.int .u64 ((0:Nat):Int)),(7,.int .u64 ((0:Nat):Int)),(8,.int .u64 ((s:Nat):Int)),(9,.int .u64 ((y1:Nat):Int)),(10,.int .u64 ((y0:Nat):Int)),(11,.int .u64 ((u32:Nat):Int)),(13,.int .u64 ((u1:Nat):Int)),(14,.int .u64 ((u0:Nat):Int)),(15,.int .u64 (((u32*4294967296+u1)/Y:Nat):Int))]∧H=H2) ⟨rfl,rfl⟩ (sub_c rfl (sub_c rfl (sub_c rfl (sub_c rfl (sub_c rfl (sub_c rfl (sub_c rfl (sub_c rfl (sub_c rfl (sub_e rfl (by rw[hYs,←dig_end hdig hY0 hcq.1 hcq.2]) sub_n)))))))))) (Heap.le.refl _)
  rintro _ _ ⟨rfl,rfl⟩;refine .sr ?_;refine .mv rfl rfl ?_;refine .p rfl (pure_mulM64 (tm rfl) (ev_nat 4294967296)) ?_;refine .mv rfl rfl ?_;refine .p rfl (pure_addM64 (tm rfl) (tm rfl)) ?_;refine .mv rfl rfl ?_;refine .mv rfl rfl ?_;refine .p rfl (pure_mulM64 (tm rfl) (tm rfl)) ?_;refine .p rfl (pure_subM64 (tm rfl) (tm rfl) (by omega)) ?_;refine .as rfl rfl ?_;refine .ng ?_;refine .seq ?_;rw[left_64 (by omega) rfl (by omega)];obtain⟨u21,hu21e⟩:∃u,u=(u32*4294967296+u1)%Y:=⟨_,rfl⟩;obtain⟨q1,hq1e⟩:∃u,u=(u32*4294967296+u1)/Y:=⟨_,rfl⟩;have hq1l:q1<4294967296:=by rw[hq1e];exact dig_lt hlu1 hu32
  have hu21:u21<Y:=by rw[hu21e];exact Nat.mod_lt _ (by omega)
  have hu21b:u21<18446744073709551616:=by omega
  rw[←hu21e,←hq1e];have hbeg2:=dig_begin hly1.1 hly1.2 hly0 hlu0 (by rw[←hYs];exact hu21);refine .region ?_;refine .mv rfl rfl ?_;refine .mv rfl rfl ?_;refine .p rfl (pure_quo64 (tm rfl) (tm rfl) (by assumption) (by omega)) ?_;refine .as rfl rfl ?_;refine .nr ?_;refine .mv rfl rfl ?_;refine .mv rfl rfl ?_;refine .mv rfl rfl ?_;refine .p rfl (pure_mulX64 (tm rfl) (tm rfl) (by exact Nat.lt_of_le_of_lt (Nat.div_mul_le_self _ _) hu21b)) ?_;refine .p rfl (pure_subX64 (tm rfl) (tm rfl) (Nat.div_mul_le_self _ _) (hu21b)) ?_;refine .as rfl rfl ?_;refine .ng ?_;refine AWP.meet (λenv H2=>env=[(2,.int .u64 ((Y:Nat):Int)),(6,.int .u64 ((0:Nat):Int)),(7,.int .u64 ((0:Nat):Int)),(8,.int .u64 ((s:Nat):Int)),(14,.int .u64 ((u0:Nat):Int)),(15,.int .u64 ((q1:Nat):Int)),(17,.int .u64 ((u21:Nat):Int)),(18,.int .u64 (((u21*4294967296+u0)/Y:Nat):Int))]∧H=H2) ?_ ?_
  · refine .block ?_;refine AWP.loopW (div_K Y s y1 y0 u32 u1 u0 u21 q1 H) (u21/y1) ⟨u21/y1,u21-u21/y1*y1,hbeg2,rfl,rfl,rfl⟩ (sub_c rfl (sub_c rfl (sub_c rfl (sub_c rfl (sub_c rfl (sub_c rfl (sub_c rfl (sub_c rfl (sub_c rfl (sub_c rfl (sub_c rfl sub_n))))))))))) (Heap.le.refl _) ?_;rintro _ _ _ ⟨q,r,hdig,rfl,rfl,hk⟩;have hdd:=hdig;obtain⟨he1,he2,he3,he4⟩:=hdd;refine .seq ?_;refine AWP.seqTo 113 (.bool (decide (((4294967296:Nat):Int)≤(q:Int))||decide (((4294967296*r+u0:Nat):Int)<((q*y0:Nat):Int)))) [2,6,7,8,9,10,14,15,16,17,18] ?_ ?_
    · refine .region ?_;refine .mv rfl rfl ?_;refine .p rfl (pure_geq (tm rfl) (ev_nat 4294967296)) ?_;refine .mv rfl rfl ?_;refine bool_casesL (t:=104) rfl (λhg104=>?_) (λhg104=>?_)
      · have hh104:=hg104;try simp only[decide_eq_true_eq]at hh104
        refine .gn rfl rfl rfl (by assumption) ?_;refine .gn rfl rfl rfl (by assumption) ?_;refine .gn rfl rfl rfl (by assumption) ?_;refine .gn rfl rfl rfl (by assumption) ?_;refine .gn rfl rfl rfl (by assumption) ?_;refine .gn rfl rfl rfl (by assumption) ?_;refine .gn rfl rfl rfl (by assumption) ?_;refine .gn rfl rfl rfl (by assumption) ?_;refine .p rfl (pure_pickT (tm rfl) (by assumption) ev_bool) ?_;refine .nil ?_;exact⟨rfl,sub_b rfl (by(rw[hg104];rfl)) (sub_c rfl (sub_c rfl (sub_c rfl (sub_c rfl (sub_c rfl (sub_c rfl (sub_c rfl (sub_c rfl (sub_c rfl (sub_c rfl (sub_c rfl sub_n))))))))))),rfl⟩
      have hh104:=hg104;try simp only[decide_eq_false_iff_not,Int.not_le]at hh104
      refine .gp rfl rfl rfl (by assumption) (pure_move (tm rfl)) ?_;refine .gp rfl rfl rfl (by assumption) (pure_move (tm rfl)) ?_;refine .gp rfl rfl rfl (by assumption) (pure_mulX64 (tm rfl) (tm rfl) (by exact qy_lt (by omega) hly0)) ?_;refine .gp rfl rfl rfl (by assumption) (pure_move (tm rfl)) ?_;refine .gp rfl rfl rfl (by assumption) (pure_mulX64 (ev_nat 4294967296) (tm rfl) (by omega)) ?_;refine .gp rfl rfl rfl (by assumption) (pure_move (tm rfl)) ?_;refine .gp rfl rfl rfl (by assumption) (pure_addX64 (tm rfl) (tm rfl) (by omega)) ?_;refine .gp rfl rfl rfl (by assumption) (pure_gtr (tm rfl) (tm rfl)) ?_;refine .p rfl (pure_pickF (tm rfl) (by assumption) (tm rfl)) ?_;refine .nil ?_;exact⟨rfl,sub_b rfl (by(rw[hg104];rfl)) (sub_c rfl (sub_c rfl (sub_c rfl (sub_c rfl (sub_c rfl (sub_c rfl (sub_c rfl (sub_c rfl (sub_c rfl (sub_c rfl (sub_c rfl sub_n))))))))))),rfl⟩
    refine AWP.sub [(113,_),(2,_),(6,_),(7,_),(8,_),(9,_),(10,_),(14,_),(15,_),(16,_),(17,_),(18,_)] (sub_c rfl (sub_c rfl (sub_c rfl (sub_c rfl (sub_c rfl (sub_c rfl (sub_c rfl (sub_c rfl (sub_c rfl (sub_c rfl (sub_c rfl (sub_c rfl sub_n)))))))))))) ?_;refine AWP.cond (tm rfl) (λhc113=>?_) (λhc113=>?_)
    · try simp only[decide_eq_true_eq,decide_eq_false_iff_not,Bool.not_eq_true',Bool.not_eq_false',Int.not_lt,Int.not_le,ne_eq,Decidable.not_not]at hc113
      have hcq:4294967296≤q∨4294967296*r+u0<q*y0:=by simp only[Bool.or_eq_true,decide_eq_true_eq]at hc113;rcases hc113 with h|h;exact .inl (by exact_mod_cast h);exact .inr (by exact_mod_cast h)
      obtain⟨hq1,hqn,hqb⟩:=dig_next hdig (by rw[←hYs];exact hu21) hlu0 hcq;obtain⟨hd1,hd2,hd3,hd4⟩:=hdig;refine .skip ?_;refine Next.go ?_;refine .block ?_;refine .sr ?_;refine .mv rfl rfl ?_;refine .p rfl (pure_subX64 (tm rfl) (ev_nat 1) (by omega) (by omega)) ?_;refine .as rfl rfl ?_;refine .nr ?_;refine .mv rfl rfl ?_;refine .mv rfl rfl ?_;refine .p rfl (pure_addX64 (tm rfl) (tm rfl) (by omega)) ?_;refine .as rfl rfl ?_;refine .nr ?_;refine .mv rfl rfl ?_;refine .p rfl (pure_geq (tm rfl) (ev_nat 4294967296)) ?_;refine .ng ?_;refine AWP.cond (tm rfl) (λhc120=>?_) (λhc120=>?_)
      · try simp only[decide_eq_true_eq]at hc120
        refine .exit ?_;refine Block.miss rfl ?_;refine Next.ex ?_;refine Block.hit ?_;refine Next.go ?_;refine Meets.mk (M:=λenv H2=>env=[(2,.int .u64 ((Y:Nat):Int)),(6,.int .u64 ((0:Nat):Int)),(7,.int .u64 ((0:Nat):Int)),(8,.int .u64 ((s:Nat):Int)),(14,.int .u64 ((u0:Nat):Int)),(15,.int .u64 ((q1:Nat):Int)),(17,.int .u64 ((u21:Nat):Int)),(18,.int .u64 (((u21*4294967296+u0)/Y:Nat):Int))]∧H=H2) ⟨rfl,rfl⟩ (sub_c rfl (sub_c rfl (sub_c rfl (sub_c rfl (sub_c rfl (sub_c rfl (sub_c rfl (sub_e rfl (by rw[hYs,←dig_out hd2 hq1 hqn hqb hly0 (by omega) hY0]) sub_n)))))))) (Heap.le.refl _)
      try simp only[decide_eq_false_iff_not,Int.not_le]at hc120
      refine .skip ?_;refine Block.go ?_;refine Next.go ?_;refine Round.mk (J:=div_K Y s y1 y0 u32 u1 u0 u21 q1 H) ⟨q-1,r+y1,⟨hqn,by omega,hqb,by omega⟩,rfl,rfl,rfl⟩ (sub_c rfl (sub_c rfl (sub_c rfl (sub_c rfl (sub_c rfl (sub_c rfl (sub_c rfl (sub_c rfl (sub_c rfl (sub_c rfl (sub_c rfl sub_n))))))))))) (Heap.le.refl _) (by omega)
    try simp only[decide_eq_true_eq,decide_eq_false_iff_not,Bool.not_eq_true',Bool.not_eq_false',Int.not_lt,Int.not_le,ne_eq,Decidable.not_not]at hc113
    have hcq:¬4294967296≤q∧¬4294967296*r+u0<q*y0:=by simp only[Bool.or_eq_false_iff,decide_eq_false_iff_not]at hc113;exact⟨λh=>hc113.1 (by exact_mod_cast h),λh=>hc113.2 (by exact_mod_cast h)⟩
    refine .exit ?_;refine Next.ex ?_;refine Next.ex ?_;refine Block.hit ?_;refine Next.go ?_;refine Meets.mk (M:=λenv H2=>env=[(2,.int .u64 ((Y:Nat):Int)),(6,.int .u64 ((0:Nat):Int)),(7,.int .u64 ((0:Nat):Int)),(8,.int .u64 ((s:Nat):Int)),(14,.int .u64 ((u0:Nat):Int)),(15,.int .u64 ((q1:Nat):Int)),(17,.int .u64 ((u21:Nat):Int)),(18,.int .u64 (((u21*4294967296+u0)/Y:Nat):Int))]∧H=H2) ⟨rfl,rfl⟩ (sub_c rfl (sub_c rfl (sub_c rfl (sub_c rfl (sub_c rfl (sub_c rfl (sub_c rfl (sub_e rfl (by rw[hYs,←dig_end hdig hY0 hcq.1 hcq.2]) sub_n)))))))) (Heap.le.refl _)
  rintro _ _ ⟨rfl,rfl⟩;refine .seq ?_;have hq0l:(u21*4294967296+u0)/Y<4294967296:=dig_lt hlu0 hu21;refine .region ?_;refine .mv rfl rfl ?_;refine .p rfl (pure_mulX64 (tm rfl) (ev_nat 4294967296) (by omega)) ?_;refine .mv rfl rfl ?_;refine .p rfl (pure_addX64 (tm rfl) (tm rfl) (by omega)) ?_;refine .mv rfl rfl ?_;refine .p rfl (pure_mulM64 (tm rfl) (ev_nat 4294967296)) ?_;refine .mv rfl rfl ?_;refine .p rfl (pure_addM64 (tm rfl) (tm rfl)) ?_;refine .mv rfl rfl ?_;refine .mv rfl rfl ?_;refine .p rfl (pure_mulM64 (tm rfl) (tm rfl)) ?_;refine .p rfl (pure_subM64 (tm rfl) (tm rfl) (by omega)) ?_;refine .mv rfl rfl ?_;refine .p rfl (pure_shr64 (tm rfl) (tm rfl) (by exact Nat.mod_lt _ (by decide))) ?_;refine .as rfl rfl ?_;refine .as rfl rfl ?_;refine .ng ?_;refine .ret ?_;refine Ret.go (.cons (.tmp _ _ rfl) (.cons (.tmp _ _ rfl) .nil)) _ (Heap.le.refl _) ?_;refine⟨?_,rfl⟩;rw[left_64 (by omega) rfl (by omega)];obtain⟨e1,e2⟩:=div64_end (B:=4294967296) hyp hY hdv;rw[hq1e,hu21e,e1,e2];rfl
end Go.Proofs.YtojblnldfdeefaaGreatDoor
set_option maxHeartbeats 1000000
namespace Go.Proofs.YtojblnldfdeefaaGreatDoor
open Go Go.RowKit
set_option maxRecDepth 100000
def dM(v:Nat)(k:Int):Nat:=if k≤0 then v*2^(-k).toNat else v/2^k.toNat
def dH(v:Nat)(k:Int):Bool:=decide (0<k∧v/2^(k.toNat-1)%2=1)
def dRe(v:Nat)(k:Int):Bool:=decide (0<k∧v%2^(k.toNat-1)≠0)
theorem if_iff{P Q:Prop}[Decidable P][Decidable Q](h:P↔Q)(a b:Nat):(if P then a else b)=if Q then a else b:=by
  by_cases hp:P
  · rw[if_pos hp,if_pos (h.1 hp)]
  rw[if_neg hp,if_neg (λq=>hp (h.2 q))]
theorem mant_d(v:Nat)(e:Int)(more:Bool):
    mantN v e more=if(dH v (unitN v e-e)&&(dRe v (unitN v e-e)||more||decide (((dM v (unitN v e-e)&&&1:Nat):Int)=((1:Nat):Int))))=true then dM v (unitN v e-e)+1 else dM v (unitN v e-e):=by
  have e1:∀x:Nat,(decide (((x&&&1:Nat):Int)=((1:Nat):Int)))=decide (x%2=1):=λx=>by
    refine decide_eq_decide.2 ?_;rw[show(1:Nat)=2^1-1 by decide,Nat.and_two_pow_sub_one_eq_mod];omega
  rw[e1];by_cases h:unitN v e≤e
  · have hd:dM v (unitN v e-e)=mantN v e more:=by
      rw[mant_same h];unfold dM;rw[if_pos (by omega)];congr 2;omega
    have hh:dH v (unitN v e-e)=false:=by unfold dH;exact decide_eq_false (by omega)
    rw[hh,Bool.false_and,if_neg (by decide),hd]
  have hd:dM v (unitN v e-e)=v/2^(unitN v e-e).toNat:=by unfold dM;rw[if_neg (by omega)]
  have hp:0<unitN v e-e:=by omega
  rw[mant_up (by omega),hd];have hH:dH v (unitN v e-e)=decide (v/2^((unitN v e-e).toNat-1)%2=1):=by unfold dH;exact decide_eq_decide.2 ⟨λq=>q.2,λq=>⟨hp,q⟩⟩
  have hR:dRe v (unitN v e-e)=decide (v%2^((unitN v e-e).toNat-1)≠0):=by unfold dRe;exact decide_eq_decide.2 ⟨λq=>q.2,λq=>⟨hp,q⟩⟩
  rw[hH,hR];refine if_iff ?_ _ _;simp only[Bool.and_eq_true,Bool.or_eq_true,decide_eq_true_eq,or_assoc]
theorem settle_calls(neg:Bool)(n:Nat)(e:Int)(more:Bool)(hn:blen n≤100000)(he: -1000000000000000≤e∧e≤1000000000000000)(f:FuncId)(cap:List AV)(H:Heap)(hent:∀args w,(callFunc f args).run Tryz.prog w= .ok (.enter f args) w)(hf:farB n e=false→ACall Tryz.prog f ([.int .i64 (unitN n e-e)]++cap) H (λy H'=>y= .tuple [.int .u64 ((dM n (unitN n e-e):Nat):Int),.bool (dH n (unitN n e-e)),.bool (dRe n (unitN n e-e))]∧H'=H)):ACall Tryz.prog 206 [.bool neg,.int .i64 (blen n:Int),.int .i64 e,.bool more,.func f cap] H (λy H'=>y= .int .u64 ((roundN neg n e more:Nat):Int)∧H'=H):=by
  have hmd:=mant_d n e more;have hml:=mant_le n e more;have hdm:dM n (unitN n e-e)≤9007199254740992:=by rw[hmd]at hml;split at hml<;>omega
  have hul:=unit_low n e;have hur:unitN n e≤1000000000000000+100000:=by unfold unitN;split<;>omega
  refine ACall.of_body Tryz.func206 rfl Tryz.ntmps206 Tryz.results206 rfl ?_;iterate 11 refine AM ?_
  refine .cl rfl Tryz.call278 (evs3 rfl rfl rfl) (far_calls neg n e hn he _) ?_;iterate 12 refine AX ?_
  refine AWP.cx rfl (λhc24=>?_) (λhc24=>?_)
  · have hfar:farB n e=true:=hc24;iterate 9 refine AX ?_
    refine⟨?_,rfl⟩;rw[far_true hfar];rfl
  have hfar:farB n e=false:=hc24;obtain⟨hf1,hf2,hf3,hf4⟩:=far_false (neg:=neg) (more:=more) hfar;have hup:unitN n e≤1000000:=by unfold unitN;split<;>omega
  iterate 6 refine AX ?_
  refine .cl rfl Tryz.call279 (evs2 rfl rfl) (unit_calls n e hn he _) ?_;iterate 9 refine AX ?_
  refine .e rfl (step_call hent (tm rfl) (evs1 rfl) (hf hfar)) ?_;iterate 9 refine AX ?_
  refine AWP.seqToL [(14,.int .u64 ((mantN n e more:Nat):Int))] [0,10,13] ?_ ?_
  · refine AWP.seqTo 49 (.bool ((dH n (unitN n e-e)&&(dRe n (unitN n e-e)||more||decide (((dM n (unitN n e-e)&&&1:Nat):Int)=((1:Nat):Int)))))) [0,10,13,14] ?_ ?_
    · iterate 3 refine AX ?_
      refine bool_casesL (t:=39) rfl (λhg39=>?_) (λhg39=>?_)
      · iterate 2 refine AX ?_
        refine bool_casesL (t:=41) rfl (λhg41=>?_) (λhg41=>?_)
        · iterate 9 refine AX ?_
          exact⟨rfl,sub_b rfl (by(rw[show dH n (unitN n e-e)=_ from hg39,show dRe n (unitN n e-e)=_ from hg41];rfl)) sX,rfl⟩
        iterate 3 refine AX ?_
        refine bool_casesL (t:=44) rfl (λhg44=>?_) (λhg44=>?_)
        · iterate 6 refine AX ?_
          exact⟨rfl,sub_b rfl (by(rw[show dH n (unitN n e-e)=_ from hg39,show dRe n (unitN n e-e)=_ from hg41,show more=_ from hg44];rfl)) sX,rfl⟩
        iterate 6 refine AM ?_
        exact⟨rfl,sub_b rfl (by(rw[show dH n (unitN n e-e)=_ from hg39,show dRe n (unitN n e-e)=_ from hg41,show more=_ from hg44];rfl)) sX,rfl⟩
      iterate 11 refine AX ?_
      exact⟨rfl,sub_b rfl (by(rw[show dH n (unitN n e-e)=_ from hg39];rfl)) sX,rfl⟩
    refine AWP.sub [(49,_),(0,_),(10,_),(13,_),(14,_)] sX ?_;refine AWP.cx rfl (λhc49=>?_) (λhc49=>?_)
    · rw[if_pos hc49]at hmd;iterate 5 refine AM ?_
      exact⟨rfl,(sub_e rfl (by rw[hmd]) sX),rfl⟩
    rw[if_neg (by rw[hc49];decide)]at hmd;refine AX ?_;exact⟨rfl,(sub_e rfl (by rw[hmd]) sX),rfl⟩
  refine AWP.sub [(14,_),(0,_),(10,_),(13,_)] sX ?_;iterate 5 refine AX ?_
  refine .cl rfl Tryz.call280 (evs3 rfl rfl rfl) (pack_calls neg _ hml _ (by constructor<;>omega) _) ?_;iterate 5 refine AX ?_
  refine⟨?_,rfl⟩;rw[hf4];rfl
theorem down_calls(v:Nat)(hv:v<M2)(k:Int)(hk: -52≤k∧k≤1000000)(h0:k≤0→v*2^(-k).toNat<M1)(h1:0<k→v/2^(k.toNat-1)<18014398509481984)(H:Heap):ACall Tryz.prog 208 [.int .i64 k,.iptr (u2 v).cells] H (λy H'=>y= .tuple [.int .u64 ((dM v k:Nat):Int),.bool (dH v k),.bool (dRe v k)]∧H'=H):=by
  refine ACall.of_body Tryz.func208 rfl Tryz.ntmps208 Tryz.results208 rfl ?_;iterate 11 refine AM ?_
  iterate 3 refine AX ?_
  refine AWP.cx rfl (λhc9=>?_) (λhc9=>?_)
  · have hq:=h0 (by omega);iterate 5 refine AX ?_
    refine .cl rfl Tryz.call148 (evs2 rfl rfl) (wShl_calls v (-k).toNat (by omega) (-k) (by omega) _) ?_;refine .p rfl (pure_fieldV1 Tryz.underlying91 rfl Tryz.isAgg25 Tryz.sizeOf25 (tm rfl) rfl) ?_;iterate 8 refine AX ?_
    refine⟨?_,rfl⟩;have e1:dM v k=v*2^(-k).toNat:=by unfold dM;rw[if_pos (by omega)]
    have e2:dH v k=false:=by unfold dH;exact decide_eq_false (by omega)
    have e3:dRe v k=false:=by unfold dRe;exact decide_eq_false (by omega)
    have e4:v*2^(-k).toNat%M2%M1=v*2^(-k).toNat:=by rw[Nat.mod_eq_of_lt (Nat.lt_trans hq (by decide+kernel)),Nat.mod_eq_of_lt hq]
    rw[e1,e2,e3];show AV.tuple [.int .u64 ((v*2^(-k).toNat%M2%M1:Nat):Int),_,_]=_;rw[e4]
  have hq:=h1 (by omega);have hqm:v/2^(k.toNat-1)%M1<18446744073709551616:=l2_lt _;iterate 7 refine AX ?_
  refine .cl rfl Tryz.call203 (evs2 rfl rfl) (wShr_calls v hv (k.toNat-1) (by omega) (k-1) (by omega) _) ?_;iterate 3 refine AX ?_
  refine .al zr91 (λb6 hb6=>?_);iterate 4 refine AX ?_
  refine AWP.frz (t:=6) rfl (hb6) ?_;refine AX ?_;refine AWP.draw [(0,true),(3,true),(4,true),(5,true),(6,true),(7,true),(1,false),(2,true),(8,true),(9,true),(10,true)] rfl (by decide+kernel) ?_;refine AX ?_;refine .p rfl rfl (pure_fieldI Tryz.underlying91 rfl Tryz.sizeOf25 (tm rfl)) ?_;iterate 4 refine AM ?_
  refine .s rfl rfl (step_call0 Tryz.call148 (.cons (tm rfl) (.cons ev_int .nil)) (wShl_calls (v/2^(k.toNat-1)) 63 (by decide) 63 rfl _)) ?_;rintro _ _ ⟨rfl,hH⟩;obtain rfl:=hH.symm;refine .p rfl rfl (pure_fieldV1 Tryz.underlying91 rfl Tryz.isAgg25 Tryz.sizeOf25 (tm rfl) rfl) ?_;iterate 7 refine AX ?_
  refine⟨?_,rfl⟩;have e1:dM v k=v/2^k.toNat:=by unfold dM;rw[if_neg (by omega)]
  have e2:dH v k=decide (v/2^(k.toNat-1)%2=1):=by unfold dH;exact decide_eq_decide.2 ⟨λq=>q.2,λq=>⟨by omega,q⟩⟩
  have e3:dRe v k=decide (v%2^(k.toNat-1)≠0):=by unfold dRe;exact decide_eq_decide.2 ⟨λq=>q.2,λq=>⟨by omega,q⟩⟩
  have e4:v/2^(k.toNat-1)*2^63%M2/M1=v/2^k.toNat:=by rw[half_hi hq,div_half (by omega)]
  have e5:decide (((v/2^(k.toNat-1)%M1&&&1:Nat):Int)=((1:Nat):Int))=decide (v/2^(k.toNat-1)%2=1):=by
    refine decide_eq_decide.2 ?_;rw[Nat.mod_eq_of_lt (Nat.lt_trans hq (by decide+kernel)),show(1:Nat)=2^1-1 by decide,Nat.and_two_pow_sub_one_eq_mod];omega
  rw[e1,e2,e3];show AV.tuple [.int .u64 ((v/2^(k.toNat-1)*2^63%M2/M1:Nat):Int),.bool (decide (((v/2^(k.toNat-1)%M1&&&1:Nat):Int)=((1:Nat):Int))),_]=_;rw[e4,e5]
theorem wLen2(v:Nat)(hv:v<M2)(H:Heap):ACall Tryz.prog 207 [u2 v] H (λy H'=>y= .int .i64 (blen v:Int)∧H'=H):=by
  have h:=wLen_calls (v/M1) (v%M1) (h2_lt hv) (l2_lt v) H;rw[show v/M1*18446744073709551616+v%M1=v from by have:=Nat.div_add_mod v M1;rw[Nat.mul_comm]at this;exact this]at h;exact h
theorem down_ok(v:Nat)(hv:v<M2)(e:Int)(hfar:farB v e=false)(H:Heap):ACall Tryz.prog 208 ([.int .i64 (unitN v e-e)]++[.iptr (u2 v).cells]) H (λy H'=>y= .tuple [.int .u64 ((dM v (unitN v e-e):Nat):Int),.bool (dH v (unitN v e-e)),.bool (dRe v (unitN v e-e))]∧H'=H):=by
  obtain⟨h0,h1,h2,h3⟩:=far_false (neg:=false) (more:=false) hfar;have hb:blen v≤128:=blen_le.2 (by rw[show(2:Nat)^128=M2 by decide+kernel];exact hv);refine down_calls v hv (unitN v e-e) ⟨?_,?_⟩ (λq=>?_) (λq=>?_) H
  · rcases Int.lt_or_le e (unitN v e)with h|h
    · omega
    have:=up_room h0 h;omega
  · unfold unitN;split<;>omega
  · have:=fup_small (v:=v) (e:=e) (by omega);rw[show(-(unitN v e-e)).toNat=(e-unitN v e).toNat by omega];exact this
  exact down_small (by omega)
theorem Join_calls(neg:Bool)(v:Nat)(hv:v<M2)(e:Int)(he: -1000000000000000≤e∧e≤1000000000000000)(more:Bool)(H:Heap):ACall Tryz.prog 129 [.bool neg,u2 v,.int .i64 e,.bool more] H (λy H'=>y= .int .u64 ((roundN neg v e more:Nat):Int)∧H'=H):=by
  refine ACall.of_body Tryz.func129 rfl Tryz.ntmps129 Tryz.results129 rfl ?_;iterate 10 refine AM ?_
  refine .cl rfl Tryz.call207 (evs1 rfl) (wLen2 v hv _) ?_;iterate 3 refine AX ?_
  refine .cl rfl Tryz.call206 (.cons (tm rfl) (.cons (tm rfl) (evs3 rfl rfl rfl))) (settle_calls neg v e more (by have:blen v≤128:=blen_le.2 (by rw[show(2:Nat)^128=M2 by decide+kernel];exact hv);omega) he 208 [.iptr (u2 v).cells] _ Tryz.call208 (λhfar=>down_ok v hv e hfar _)) ?_;iterate 5 refine AX ?_
  exact⟨rfl,rfl⟩
end Go.Proofs.YtojblnldfdeefaaGreatDoor
namespace Go.Proofs.YtojblnldfdeefaaGreatDoor
open Go Go.RowKit
theorem round_le(n:Nat)(e:Int)(more:Bool):roundN false n e more≤infN:=by
  unfold roundN;split
  · exact Nat.zero_le _
  split
  · exact Nat.le_of_eq (by unfold signN;simp)
  rw[pk_eq];have h:=mant_le n e more;unfold signN pk;rw[if_neg (by decide),Nat.zero_add];split
  · exact packM_inf _ _ (by decide)
  exact packM_inf _ _ (by omega)
end Go.Proofs.YtojblnldfdeefaaGreatDoor
set_option maxHeartbeats 1000000
namespace Go.Proofs.YtojblnldfdeefaaGreatDoor
open Go Go.RowKit
set_option maxRecDepth 100000
theorem zr227:ZR 227 [.int .i64 0,.int .i64 0,.int .i64 0,.int .i64 0]:=ZRi Tryz.zeroValue227
theorem zr228:ZR 228 [.int .i64 0,.int .i64 0,.int .i64 0,.int .i64 0,.int .i64 0,.int .i64 0,.int .i64 0,.int .i64 0,.int .i64 0,.int .i64 0,.int .i64 0,.int .i64 0,.int .i64 0,.int .i64 0,.int .i64 0,.int .i64 0]:=ZRi Tryz.zeroValue228
theorem zr290:ZR 290 [.int .i64 0,.int .i64 0,.int .i64 0,.int .i64 0,.int .i64 0]:=ZRi Tryz.zeroValue290
def kindA(k:Nat):Nat:=if k=0 then 0 else if k≤2 then 1 else if k=3 then 2 else 3
theorem kindA_lt(k:Nat):kindA k<4:=by
  unfold kindA
  repeat' split
  all_goals omega
theorem kind_tab{k:Nat}(h:k≤4):([.int .i64 0,.int .i64 1,.int .i64 1,.int .i64 2,.int .i64 3]:List AV)[((k:Nat):Int).toNat]?=some (.int .i64 ((kindA k:Nat):Int)):=by
  rcases(by omega:k=0∨k=1∨k=2∨k=3∨k=4)with rfl|rfl|rfl|rfl|rfl<;>rfl
def mulsT(p q:Nat):Int:=(([[6,6,1,1],[6,0,5,1],[1,5,5,1],[1,1,1,1]]:List (List Int)).getD p []).getD q 0
theorem muls_tab{p q:Nat}(hp:p<4)(hq:q<4):((([.int .i64 6,.int .i64 6,.int .i64 1,.int .i64 1,.int .i64 6,.int .i64 0,.int .i64 5,.int .i64 1,.int .i64 1,.int .i64 5,.int .i64 5,.int .i64 1,.int .i64 1,.int .i64 1,.int .i64 1,.int .i64 1]:List AV).drop (((p:Nat):Int).toNat*4)).drop (((q:Nat):Int).toNat*1))[0]?=some (.int .i64 (mulsT p q)):=by
  rcases(by omega:p=0∨p=1∨p=2∨p=3)with rfl|rfl|rfl|rfl<;>rcases(by omega:q=0∨q=1∨q=2∨q=3)with rfl|rfl|rfl|rfl<;>rfl
def mnegB(a b:Nat):Bool:=decide (((a/2^63:Nat):Int)≠((b/2^63:Nat):Int))
def fmulN(a b:Nat):Nat:=
  if mulsT (kindA (kindN a)) (kindA (kindN b))=1 then 9221120237041090560
  else if mulsT (kindA (kindN a)) (kindA (kindN b))=5 then(if mnegB a b=true then 18442240474082181120 else 9218868437227405312)
  else roundN (mnegB a b) (partM a*partM b) (partE a+partE b) false
section
variable{P:Program}{env:Env}{H:Heap}{dst:Option Tmp}{ty:TypeId}{pos:String}{af:Array Edge}{gd:Option (Nat×Bool)}
theorem pure_loadH{T:TypeId}{x:Operand}{cs:List AV}{c:AV}(ha:∀w,(isAgg T).run P w= .ok false w)(hx:Ev env x (.iptr cs))(hc:cs[0]?=some c):APure P ⟨dst,.load T x,ty,pos,af,gd⟩ env c:=by
  match cs,hc with
  |d::ds,hc=>
    obtain rfl:d=c:=by simpa using hc
    exact pure_load1 ha hx
end
theorem akind_calls(x:Nat)(hx:x<18446744073709551616)(H:Heap):ACall Tryz.prog 202 [.int .u64 (x:Int)] H (λy H'=>y= .int .i64 ((kindA (kindN x):Nat):Int)∧H'=H):=by
  have hk:=kindN_le x;refine ACall.of_body Tryz.func202 rfl Tryz.ntmps202 Tryz.results202 rfl ?_;iterate 7 refine AX ?_
  refine .p rfl (pure_bdA Tryz.underlying290 Tryz.sizeOf3 zr290 (.cons ev_int (.inl rfl) (.cons ev_int (.inl rfl) (.cons ev_int (.inl rfl) (.cons ev_int (.inl rfl) (.cons ev_int (.inl rfl) .nil))))) rfl) ?_;refine AX ?_;refine .cl rfl Tryz.call92 (evs1 rfl) (Kind_calls _ (by assumption) _) ?_;refine .p rfl (pure_indexV Tryz.underlying290 Tryz.isAgg3 Tryz.sizeOf3 (tm rfl) (tm rfl) (by omega) (by omega) (kind_tab hk)) ?_;iterate 5 refine AX ?_
  exact⟨rfl,rfl⟩
theorem muls_calls(a b:Nat)(ha:a<18446744073709551616)(hb:b<18446744073709551616)(H:Heap):ACall Tryz.prog 127 [.int .u64 (a:Int),.int .u64 (b:Int)] H (λy H'=>y= .int .i64 (mulsT (kindA (kindN a)) (kindA (kindN b)))∧H'=H):=by
  have hka:=kindA_lt (kindN a);have hkb:=kindA_lt (kindN b);refine ACall.of_body Tryz.func127 rfl Tryz.ntmps127 Tryz.results127 rfl ?_;iterate 7 refine AX ?_
  refine .p rfl (pure_bdA Tryz.underlying227 Tryz.sizeOf3 zr227 (.cons ev_int (.inl rfl) (.cons ev_int (.inl rfl) (.cons ev_int (.inl rfl) (.cons ev_int (.inl rfl) .nil)))) rfl) ?_;refine .p rfl (pure_bdA Tryz.underlying227 Tryz.sizeOf3 zr227 (.cons ev_int (.inl rfl) (.cons ev_int (.inl rfl) (.cons ev_int (.inl rfl) (.cons ev_int (.inl rfl) .nil)))) rfl) ?_;refine .p rfl (pure_bdA Tryz.underlying227 Tryz.sizeOf3 zr227 (.cons ev_int (.inl rfl) (.cons ev_int (.inl rfl) (.cons ev_int (.inl rfl) (.cons ev_int (.inl rfl) .nil)))) rfl) ?_;refine .p rfl (pure_bdA Tryz.underlying227 Tryz.sizeOf3 zr227 (.cons ev_int (.inl rfl) (.cons ev_int (.inl rfl) (.cons ev_int (.inl rfl) (.cons ev_int (.inl rfl) .nil)))) rfl) ?_;refine .p rfl (pure_bdA Tryz.underlying228 Tryz.sizeOf227 zr228 (.cons (tm rfl) (.inr ⟨_,rfl⟩) (.cons (tm rfl) (.inr ⟨_,rfl⟩) (.cons (tm rfl) (.inr ⟨_,rfl⟩) (.cons (tm rfl) (.inr ⟨_,rfl⟩) .nil)))) rfl) ?_;refine .al zr228 (λb5 hb5=>?_);iterate 3 refine AX ?_
  refine AWP.frz (t:=5) rfl (hb5) ?_;refine AX ?_;refine AWP.draw [(0,true),(1,true),(2,true),(3,true),(4,true),(5,true),(6,true),(7,true)] rfl (by decide+kernel) ?_;refine AX ?_;refine APlan.f rfl rfl (λ_=>step_call0 Tryz.call202 (evs1 rfl) (akind_calls _ (by assumption) _)) ?_;refine AX ?_;refine APlan.f rfl rfl (λ_=>step_call0 Tryz.call202 (evs1 rfl) (akind_calls _ (by assumption) _)) ?_;iterate 2 refine AX ?_
  refine .p rfl rfl (pure_loadH Tryz.isAgg3 (tm rfl) (muls_tab hka hkb)) ?_;iterate 5 refine AX ?_
  exact⟨rfl,rfl⟩
theorem wMul2(x y:Nat)(hx:x<18446744073709551616)(hy:y<18446744073709551616)(H:Heap):ACall Tryz.prog 130 [.int .u64 (x:Int),.int .u64 (y:Int)] H (λz H'=>z=u2 (x*y)∧H'=H):=wMul_calls x y hx hy H
theorem part_mul{a b:Nat}:partM a*partM b<M2:=by
  have h1:=partM_lt a;have h2:=partM_lt b;have h3:partM a*partM b≤18014398509481984*18014398509481984:=Nat.mul_le_mul (by omega) (by omega);exact Nat.lt_of_le_of_lt h3 (by decide+kernel)
theorem fMul_calls(a b:Nat)(ha:a<18446744073709551616)(hb:b<18446744073709551616)(H:Heap):ACall Tryz.prog 62 [.int .u64 (a:Int),.int .u64 (b:Int)] H (λy H'=>y= .int .u64 ((fmulN a b:Nat):Int)∧H'=H):=by
  have hpa:=partE_range a;have hpb:=partE_range b;have hma:=partM_lt a;have hmb:=partM_lt b;refine ACall.of_body Tryz.func62 rfl Tryz.ntmps62 Tryz.results62 rfl ?_;iterate 20 refine AM ?_
  refine .cl rfl Tryz.call127 (evs2 rfl rfl) (muls_calls _ _ (by assumption) (by assumption) _) ?_;iterate 9 refine AX ?_
  refine AWP.cx rfl (λhc20=>?_) (λhc20=>?_)
  · iterate 9 refine AM ?_
    refine⟨?_,rfl⟩;unfold fmulN;rw[if_pos hc20];rfl
  iterate 6 refine AX ?_
  refine AWP.cx rfl (λhc22=>?_) (λhc22=>?_)
  · iterate 6 refine AX ?_
    refine AWP.cx rfl (λhc24=>?_) (λhc24=>?_)
    · iterate 10 refine AM ?_
      refine⟨?_,rfl⟩;have hmn:mnegB a b=true:=decide_eq_true hc24;unfold fmulN;rw[if_neg hc20,if_pos hc22,if_pos hmn];rfl
    iterate 11 refine AM ?_
    refine⟨?_,rfl⟩;unfold fmulN;rw[if_neg hc20,if_pos hc22,if_neg (by unfold mnegB;simpa using hc24)];rfl
  iterate 6 refine AX ?_
  refine .cl rfl Tryz.call128 (evs1 rfl) (Split_calls a ha _) ?_;iterate 12 refine AX ?_
  refine .cl rfl Tryz.call128 (evs1 rfl) (Split_calls b hb _) ?_;iterate 14 refine AX ?_
  refine .cl rfl Tryz.call130 (evs2 rfl rfl) (wMul2 _ _ (by omega) (by omega) _) ?_;iterate 3 refine AX ?_
  refine .cl rfl Tryz.call129 (.cons (tm rfl) (.cons (tm rfl) (.cons (tm rfl) (.cons ev_bool .nil)))) (Join_calls (mnegB a b) (partM a*partM b) part_mul _ (by constructor<;>omega) false _) ?_;iterate 5 refine AX ?_
  refine⟨?_,rfl⟩;unfold fmulN;rw[if_neg hc20,if_neg hc22];rfl
end Go.Proofs.YtojblnldfdeefaaGreatDoor
-- shim
