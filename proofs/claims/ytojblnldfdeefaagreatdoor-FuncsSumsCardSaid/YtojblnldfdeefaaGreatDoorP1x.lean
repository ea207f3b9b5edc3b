/-
  Rounding to binary64, as a function of naturals: what is far below may be told as 'a little more';
  it goes up with what is rounded; it may be scaled; a fraction may be worked out to any places.
-/
import Derived.Test.YtojblnldfdeefaaGreatDoorN1x
set_option maxHeartbeats 1000000
namespace Go.Proofs.YtojblnldfdeefaaGreatDoor
open Go Go.RowKit
def rne(n k:Nat)(more:Bool):Nat:=
  if n/2^(k-1)%2=1∧(n%2^(k-1)≠0∨more=true∨n/2^k%2=1)then n/2^k+1 else n/2^k
def unitN(n:Nat)(e:Int):Int:=if e+blen n-53< -1074 then-1074 else e+blen n-53
def mantN(n:Nat)(e:Int)(more:Bool):Nat:=if unitN n e≤e then n*2^(e-unitN n e).toNat else rne n (unitN n e-e).toNat more
def infN:Nat:=9218868437227405312
def signN(neg:Bool):Nat:=if neg=true then 9223372036854775808 else 0
def packM(m:Nat)(u:Int):Nat:=
  if m<4503599627370496 then m
  else if u+1075≥2047 then infN
  else m+(u+1074).toNat*4503599627370496
def packN(neg:Bool)(m:Nat)(u:Int):Nat:=signN neg+(if m=9007199254740992 then packM 4503599627370496 (u+1)else packM m u)
def roundN(neg:Bool)(n:Nat)(e:Int)(more:Bool):Nat:=
  if n=0∨(e< -10000∧e+blen n< -2000)then signN neg
  else if 2000<e then signN neg+infN
  else packN neg (mantN n e more) (unitN n e)
def pk(m:Nat)(u:Int):Nat:=if m=9007199254740992 then packM 4503599627370496 (u+1)else packM m u
theorem packM_inf(m:Nat)(u:Int)(h:m<9007199254740992):packM m u≤infN:=by
  unfold packM infN;split
  · omega
  grind
theorem unit_low(n:Nat)(e:Int): -1074≤unitN n e:=by unfold unitN;split<;>omega
theorem rne_le{n k b:Nat}{more:Bool}(h:n<2^(b+k)):rne n k more≤2^b:=by
  have:n/2^k<2^b:=by rw[Nat.div_lt_iff_lt_mul (Nat.pow_pos (by decide)),←Nat.pow_add];exact h
  unfold rne;split<;>omega
theorem mant_le(n:Nat)(e:Int)(more:Bool):mantN n e more≤9007199254740992:=by
  have hn:n<2^blen n:=blen_le.1 (Nat.le_refl _);have e53:(9007199254740992:Nat)=2^53:=by decide
  unfold mantN;split
  · rename_i h
    have hb:blen n+(e-unitN n e).toNat≤53:=by unfold unitN at *;split at h<;>omega
    rw[e53];refine Nat.le_trans ?_ (Nat.pow_le_pow_right (by decide) hb);rw[Nat.pow_add];exact Nat.mul_le_mul_right _ (Nat.le_of_lt hn)
  rename_i h
  rw[e53];refine rne_le (Nat.lt_of_lt_of_le hn (Nat.pow_le_pow_right (by decide) ?_));unfold unitN at *;split at h<;>omega
theorem pk_eq(neg:Bool)(m:Nat)(u:Int):packN neg m u=signN neg+pk m u:=rfl
end Go.Proofs.YtojblnldfdeefaaGreatDoor
namespace Go.Proofs.YtojblnldfdeefaaGreatDoor
open Go Go.RowKit Go.Shelf
theorem blen_half{x:Nat}(h:0<x):blen x=1+blen (x/2):=by
  rcases Nat.lt_or_ge x 2 with h1|h1
  · have:x=1:=by omega
    subst this;rfl
  rw[blen_shift (n:=x) (k:=1) (m:=x/2) (by omega) (by rw[Nat.pow_one])]
theorem bitLen_aux:∀(f x:Nat),x<2^f→Lib.bitLenAux f x=blen x
  |0,x,h=>by
    have:x=0:=by simpa using h
    subst this;rfl
  |f+1,x,h=>by
    unfold Lib.bitLenAux;split
    · rename_i h0;subst h0;rfl
    rw[bitLen_aux f (x/2) (by rw[Nat.pow_succ]at h;omega),blen_half (x:=x) (by omega)]
theorem len64A(x:Nat)(hx:x<18446744073709551616)(H:Heap):ACall Tryz.prog 210 [.int .u64 (x:Int)] H (λy H'=>y= .int .i64 (blen x:Int)∧H'=H):=by
  refine ACall.lib _ λg vs w k st=>?_;obtain⟨v,rfl,hv⟩:=relvs1 k;cases hv
  refine(Tryz.bits_Len64 (x:Int) w (by omega) (by omega)).mono ?_;rintro e w' ⟨rfl,rfl⟩;refine⟨_,rfl,?_,Below.refl _ _⟩;rw[Int.toNat_natCast,Lib.bitLen,bitLen_aux 64 x hx];exact .int _ _
theorem mul64A(x y:Nat)(hx:x<18446744073709551616)(hy:y<18446744073709551616)(H:Heap):ACall Tryz.prog 209 [.int .u64 (x:Int),.int .u64 (y:Int)] H (λz H'=>z= .tuple [.int .u64 ((x*y/18446744073709551616:Nat):Int),.int .u64 ((x*y%18446744073709551616:Nat):Int)]∧H'=H):=by
  refine ACall.lib _ λg vs w k st=>?_;obtain⟨v,u,rfl,hv,hu⟩:=relvs2 k;cases hv;cases hu
  refine(Tryz.bits_Mul64 x y hx hy w).mono ?_;rintro e w' ⟨rfl,rfl⟩;refine⟨_,rfl,.tuple _ _ rfl (λi c v hc hv=>?_),Below.refl _ _⟩
  match i with
  |0=>cases hc;cases hv;exact .int _ _
  |1=>cases hc;cases hv;exact .int _ _
  |i+2=>simp at hc
theorem ext276:IsExt Tryz.prog 276 add64Entry:=⟨_,Tryz.func276,by kernel_rfl,by kernel_rfl,by kernel_rfl,by kernel_rfl⟩
theorem ext_add64{x y c:Nat}(hc:c≤1):∀g vs w,RelVs g [.int .u64 (x:Int),.int .u64 (y:Int),.int .u64 (c:Int)] vs→∃v,(add64Entry vs.toArray).run Tryz.prog w= .ok v w∧RelV g (.tuple [.int .u64 (((x+y+c)%18446744073709551616:Nat):Int),.int .u64 (((x+y+c)/18446744073709551616:Nat):Int)]) v:=by
  intro g vs w hr;obtain⟨v,u,z,rfl,h1,h2,h3⟩:=relvs3 hr;cases h1;cases h2;cases h3
  have hrun:=run_add64 (P:=Tryz.prog) (x:Int) (y:Int) (c:Int) (by omega) (by omega) (by omega) (by omega) w;refine⟨_,hrun,.tuple _ _ rfl (λi c v hc hv=>?_)⟩
  match i with
  |0=>cases hc;cases hv;exact .int _ _
  |1=>cases hc;cases hv;exact .int _ _
  |i+2=>simp at hc
end Go.Proofs.YtojblnldfdeefaaGreatDoor
namespace Go.Proofs.YtojblnldfdeefaaGreatDoor
open Go Go.RowKit
set_option maxRecDepth 100000
def w2(h l:Nat):AV:=.agg [.int .u64 (h:Int),.int .u64 (l:Int)]
theorem blen_two{h l:Nat}(hl:l<18446744073709551616)(h0:0<h):blen (h*18446744073709551616+l)=64+blen h:=by
  have e:(18446744073709551616:Nat)=2^64:=by decide
  rw[blen_shift (n:=h*18446744073709551616+l) (k:=64) (m:=h) (by rw[←e];exact Nat.le_trans (Nat.le_mul_of_pos_left _ h0) (Nat.le_add_right _ _)) (by rw[←e,Nat.add_comm,Nat.add_mul_div_right _ _ (by decide),Nat.div_eq_of_lt hl,Nat.zero_add])]
def w3(h m l:Nat):AV:=.agg [.int .u64 (h:Int),.int .u64 (m:Int),.int .u64 (l:Int)]
theorem zr91:ZR 91 [.int .u64 0,.int .u64 0]:=ZRi Tryz.zeroValue91
theorem pl91:PL 91 [(0,1),(1,1)]:=PLi Tryz.underlying91
theorem zr292:ZR 292 [.int .u64 0,.int .u64 0,.int .u64 0]:=ZRi Tryz.zeroValue292
theorem pl292:PL 292 [(0,1),(1,1),(2,1)]:=PLi Tryz.underlying292
theorem wLen_calls(h l:Nat)(hh:h<18446744073709551616)(hl:l<18446744073709551616)(H:Heap):ACall Tryz.prog 207 [w2 h l] H (λy H'=>y= .int .i64 (blen (h*18446744073709551616+l):Int)∧H'=H):=by
  have hb:=(blen_le (n:=h) (k:=64)).2 (Nat.lt_of_lt_of_eq hh (by decide));refine ACall.of_body Tryz.func207 rfl Tryz.ntmps207 Tryz.results207 rfl ?_;iterate 9 refine AX ?_
  refine .p rfl (pure_fieldI Tryz.underlying91 rfl Tryz.sizeOf25 (tm rfl)) ?_;iterate 4 refine AM ?_
  refine AWP.cx rfl (λhc5=>?_) (λhc5=>?_)
  · iterate 2 refine AX ?_
    refine .p rfl (pure_fieldI Tryz.underlying91 rfl Tryz.sizeOf25 (tm rfl)) ?_;refine AX ?_;refine .cl rfl Tryz.call210 (evs1 rfl) (len64A _ (by assumption) _) ?_;iterate 7 refine AX ?_
    refine⟨?_,rfl⟩;rw[blen_two hl (by omega)];simp only[packed];congr 1
  iterate 4 refine AX ?_
  refine .p rfl (pure_fieldI Tryz.underlying91 rfl Tryz.sizeOf25 (tm rfl)) ?_;refine AX ?_;refine .cl rfl Tryz.call210 (evs1 rfl) (len64A _ (by assumption) _) ?_;iterate 5 refine AX ?_
  refine⟨?_,rfl⟩;rw[show h=0 by omega,Nat.zero_mul,Nat.zero_add];rfl
theorem wLow_calls(h m l:Nat)(H:Heap):ACall Tryz.prog 275 [w3 h m l] H (λy H'=>y=w2 m l∧H'=H):=by
  refine ACall.of_body Tryz.func275 rfl Tryz.ntmps275 Tryz.results275 rfl ?_;iterate 3 refine AX ?_
  refine .al zr91 (λb2 hb2=>?_);iterate 4 refine AX ?_
  refine .p rfl (pure_fieldI Tryz.underlying292 rfl Tryz.sizeOf25 (tm rfl)) ?_;refine AX ?_;refine .p rfl (pure_fieldI Tryz.underlying292 rfl Tryz.sizeOf25 (tm rfl)) ?_;refine AX ?_;refine .p rfl (pure_bd zr91 pl91 (.cons (tm rfl) (.inl rfl) (.cons (tm rfl) (.inl rfl) .nil)) rfl) ?_;iterate 3 refine AX ?_
  refine AWP.frz (t:=2) rfl (hb2) ?_;iterate 2 refine AX ?_
  exact⟨rfl,rfl⟩
theorem wMul_calls(x y:Nat)(hx:x<18446744073709551616)(hy:y<18446744073709551616)(H:Heap):ACall Tryz.prog 130 [.int .u64 (x:Int),.int .u64 (y:Int)] H (λz H'=>z=w2 (x*y/18446744073709551616) (x*y%18446744073709551616)∧H'=H):=by
  refine ACall.of_body Tryz.func130 rfl Tryz.ntmps130 Tryz.results130 rfl ?_;iterate 2 refine AX ?_
  refine .al zr91 (λb4 hb4=>?_);iterate 6 refine AX ?_
  refine .cl rfl Tryz.call209 (evs2 rfl rfl) (mul64A _ _ (by assumption) (by assumption) _) ?_;iterate 11 refine AX ?_
  refine .p rfl (pure_bd zr91 pl91 (.cons (tm rfl) (.inl rfl) (.cons (tm rfl) (.inl rfl) .nil)) rfl) ?_;iterate 3 refine AX ?_
  refine AWP.frz (t:=4) rfl (hb4) ?_;iterate 2 refine AX ?_
  exact⟨rfl,rfl⟩
end Go.Proofs.YtojblnldfdeefaaGreatDoor
namespace Go.Proofs.YtojblnldfdeefaaGreatDoor
open Go Go.RowKit
def M1:Nat:=18446744073709551616
def M2:Nat:=340282366920938463463374607431768211456
def M3:Nat:=6277101735386680763835789423207666416102355444464034512896
theorem M1_two:M1=2^64:=by decide
theorem M2_eq:M2=M1*M1:=by decide+kernel
theorem M3_eq:M3=M1*M2:=by decide+kernel
def u2(v:Nat):AV:=w2 (v/M1) (v%M1)
def u3(v:Nat):AV:=w3 (v/M2) (v/M1%M1) (v%M1)
theorem h2_lt{v:Nat}(h:v<M2):v/M1<M1:=by
  rw[Nat.div_lt_iff_lt_mul (by decide),←M2_eq];exact h
theorem l2_lt(v:Nat):v%M1<M1:=Nat.mod_lt _ (by decide)
theorem hi_lt3{v:Nat}(h:v<M3):v/M2<M1:=by
  rw[Nat.div_lt_iff_lt_mul (by decide),←M3_eq];exact h
theorem or_up{x y n:Nat}(hy:y<2^n)(hn:n≤64):(x*2^n%M1)|||y=x*2^n%M1+y:=by
  have e:x*2^n%M1=x%2^(64-n)*2^n:=by
    rw[M1_two,show(64:Nat)=(64-n)+n by omega,Nat.pow_add,Nat.mul_mod_mul_right];congr 2;congr 1;omega
  rw[e];exact or_add hy
theorem up_down{l n:Nat}(hn:n≤64):l*2^n/M1=l/2^(64-n):=by
  rw[M1_two,show(64:Nat)=(64-n)+n by omega,Nat.pow_add,Nat.mul_div_mul_right _ _ (Nat.pow_pos (by decide))];congr 2;omega
theorem down_lt(v:Nat){n:Nat}(hn:n≤64):v%M1/2^(64-n)<2^n:=by
  rw[Nat.div_lt_iff_lt_mul (Nat.pow_pos (by decide)),←Nat.pow_add,show n+(64-n)=64 by omega,←M1_two];exact l2_lt v
theorem shl_hi{v n:Nat}(hn:n≤64):v*2^n%M2/M1=(v/M1*2^n%M1+v%M1/2^(64-n)):=by
  have h1:=Nat.div_add_mod v M1;have h2:v*2^n=M1*(v/M1*2^n)+v%M1*2^n:=by
    rw[←Nat.mul_assoc,←Nat.add_mul,h1]
  rw[M2_eq,Nat.mod_mul_right_div_self,h2,Nat.mul_add_div (by decide),up_down hn];have h3:v%M1/2^(64-n)<2^n:=by
    rw[Nat.div_lt_iff_lt_mul (Nat.pow_pos (by decide)),←Nat.pow_add,show n+(64-n)=64 by omega,←M1_two];exact l2_lt v
  have e:v/M1*2^n%M1=v/M1%2^(64-n)*2^n:=by
    rw[M1_two,show(64:Nat)=(64-n)+n by omega,Nat.pow_add,Nat.mul_mod_mul_right];congr 2;congr 1;omega
  have h4:v/M1%2^(64-n)*2^n+v%M1/2^(64-n)<M1:=by
    have h5:=Nat.mod_lt (v/M1) (Nat.pow_pos (by decide):0<2^(64-n));have h6:(v/M1%2^(64-n)+1)*2^n≤2^(64-n)*2^n:=Nat.mul_le_mul_right _ h5;rw[←Nat.pow_add,show 64-n+n=64 by omega,←M1_two,Nat.add_mul,Nat.one_mul]at h6;omega
  rw[Nat.add_mod,e,Nat.mod_eq_of_lt (Nat.lt_of_le_of_lt (Nat.le_add_left _ _) h4),Nat.mod_eq_of_lt h4]
theorem mul_low(v k:Nat):v*k%M1=v%M1*k%M1:=by
  conv=>lhs;rw[Nat.mul_mod]
  conv=>rhs;rw[Nat.mul_mod,Nat.mod_mod]
theorem shl_lo(v n:Nat):v*2^n%M2%M1=v%M1*2^n%M1:=by
  rw[M2_eq,Nat.mod_mul_right_mod,mul_low]
theorem down_M1{x k:Nat}(hk:k≤64):x/2^k%M1=x%M1/2^k+x/M1*2^(64-k)%M1:=by
  have e:M1=2^k*2^(64-k):=by rw[M1_two,←Nat.pow_add,show k+(64-k)=64 by omega]
  have h1:x/2^k=x%M1/2^k+x/M1*2^(64-k):=by
    have h2:x=x%M1+2^k*(x/M1*2^(64-k)):=by
      have h3:=Nat.mod_add_div x M1;rw[Nat.mul_comm (x/M1),←Nat.mul_assoc,←e];exact h3.symm
    conv=>lhs;rw[h2]
    rw[Nat.add_mul_div_left _ _ (Nat.pow_pos (by decide))]
  have h4:x%M1/2^k<2^(64-k):=by
    rw[Nat.div_lt_iff_lt_mul (Nat.pow_pos (by decide)),←Nat.pow_add,show 64-k+k=64 by omega,←M1_two];exact l2_lt x
  have e2:x/M1*2^(64-k)%M1=x/M1%2^k*2^(64-k):=by
    rw[e,Nat.mul_mod_mul_right]
  have h5:x/M1%2^k*2^(64-k)+x%M1/2^k<M1:=by
    have h6:=Nat.mod_lt (x/M1) (Nat.pow_pos (by decide):0<2^k);have h7:(x/M1%2^k+1)*2^(64-k)≤2^k*2^(64-k):=Nat.mul_le_mul_right _ h6;rw[←e,Nat.add_mul,Nat.one_mul]at h7;omega
  rw[h1,Nat.add_mod,e2,Nat.mod_eq_of_lt (Nat.lt_of_le_of_lt (Nat.le_add_left _ _) h5),Nat.add_comm,Nat.mod_eq_of_lt h5]
theorem or_down{x y k:Nat}(hx:x<M1)(hk:k≤64):(x/2^k|||y*2^(64-k)%M1)=x/2^k+y*2^(64-k)%M1:=by
  rw[Nat.or_comm,or_up (by
    rw[Nat.div_lt_iff_lt_mul (Nat.pow_pos (by decide)),←Nat.pow_add,show 64-k+k=64 by omega,←M1_two];exact hx) (by omega),Nat.add_comm]
theorem div_M2(v:Nat):v/M1/M1=v/M2:=by rw[Nat.div_div_eq_div_mul,←M2_eq]
theorem drop_hi(v k:Nat):v/2^k/M2=v/M2/2^k:=by rw[Nat.div_div_eq_div_mul,Nat.mul_comm,←Nat.div_div_eq_div_mul]
theorem drop_mid{v k:Nat}(hk:k≤64):v/2^k/M1%M1=(v/M1%M1/2^k|||v/M2*2^(64-k)%M1):=by
  rw[or_down (l2_lt _) hk,Nat.div_div_eq_div_mul,Nat.mul_comm,←Nat.div_div_eq_div_mul,down_M1 hk,div_M2]
theorem drop_lo{v k:Nat}(hk:k≤64):v/2^k%M1=(v%M1/2^k|||v/M1%M1*2^(64-k)%M1):=by
  rw[or_down (l2_lt _) hk,down_M1 hk,mul_low (v/M1)]
theorem lost_add(v a b:Nat):v%2^(a+b)≠0↔(v%2^a≠0∨v/2^a%2^b≠0):=by
  rw[Nat.pow_add,Nat.mod_mul];have h:0<2^a:=Nat.pow_pos (by decide);constructor
  · grind
  rintro(q|q) h1
  · omega
  have:0<2^a*(v/2^a%2^b):=Nat.mul_pos h (Nat.pos_of_ne_zero q);omega
theorem low_k{v k:Nat}(hk:k≤64):v%M1%2^k=v%2^k:=Nat.mod_mod_of_dvd _ (by rw[M1_two];exact Nat.pow_dvd_pow 2 hk)
theorem u3_zero{v:Nat}(h:v<M3):(((v/M2:Nat):Int)=0∧((v/M1%M1:Nat):Int)=0∧((v%M1:Nat):Int)=0)↔v=0:=by
  constructor
  · rintro⟨h1,h2,h3⟩;have e1:=Nat.mod_add_div v M1;have e2:=Nat.mod_add_div (v/M1) M1;rw[div_M2]at e2;have h1':v/M2=0:=by omega
    have h2':v/M1%M1=0:=by omega
    have h3':v%M1=0:=by omega
    rw[h1',h2']at e2;simp at e2;rw[←e2,h3']at e1;simpa using e1.symm
  rintro rfl;decide
theorem div_64{v:Nat}(h:v<M3):v/M1/M2=0∧v/M1/M1%M1=v/M2:=by
  have h1:v/M1<M2:=by rw[Nat.div_lt_iff_lt_mul (by decide),Nat.mul_comm,←M3_eq];exact h
  exact⟨Nat.div_eq_of_lt h1,by rw[div_M2,Nat.mod_eq_of_lt (hi_lt3 h)]⟩
theorem lost64(v j:Nat):v%2^(64*(j+1))≠0↔(v%2^(64*j)≠0∨v/2^(64*j)%M1≠0):=by
  rw[Nat.mul_add,Nat.mul_one,lost_add,M1_two]
theorem lost64_t{v j:Nat}(h:decide (v%2^(64*j)≠0)=true):true=decide (v%2^(64*(j+1))≠0):=(decide_eq_true ((lost64 v j).2 (.inl (of_decide_eq_true h)))).symm
theorem lost64_f{v j:Nat}(h:decide (v%2^(64*j)≠0)=false):decide (((0:Nat):Int)<((v/2^(64*j)%M1:Nat):Int))=decide (v%2^(64*(j+1))≠0):=by
  have h1:=of_decide_eq_false h;refine decide_eq_decide.2 ⟨λq=>(lost64 v j).2 (.inr (by omega)),λq=>?_⟩;rcases(lost64 v j).1 q with q|q
  · grind
  omega
theorem lostk_t{v a n:Nat}(hn:a≤n)(h:decide (v%2^a≠0)=true):true=decide (v%2^n≠0):=by
  have:=(lost_add v a (n-a)).2 (.inl (of_decide_eq_true h));rw[show a+(n-a)=n by omega]at this;exact(decide_eq_true this).symm
theorem and_low_k(x k:Nat):x&&&(1*2^k-1)=x%2^k:=by rw[Nat.one_mul];exact Nat.and_two_pow_sub_one_eq_mod x k
theorem lostk_f{v a n:Nat}(hn:a≤n)(hk:n-a≤64)(h:decide (v%2^a≠0)=false):decide (((0:Nat):Int)<((v/2^a%M1&&&(1*2^(n-a)-1):Nat):Int))=decide (v%2^n≠0):=by
  have h1:=of_decide_eq_false h;have h2:=lost_add v a (n-a);rw[show a+(n-a)=n by omega]at h2;rw[and_low_k,low_k hk];refine decide_eq_decide.2 ⟨λq=>h2.2 (.inr (by omega)),λq=>?_⟩;rcases h2.1 q with q|q
  · grind
  omega
theorem shl_one64{k:Nat}(h:k<64):1*2^k<18446744073709551616:=by
  rw[Nat.one_mul,show(18446744073709551616:Nat)=2^64 by decide];exact Nat.pow_lt_pow_right (by decide) h
theorem one_le_shl(k:Nat):1≤1*2^k:=by rw[Nat.one_mul];exact Nat.pow_pos (by decide)
theorem u2_low{x:Nat}(hx:x<M1):u2 x= .agg [.int .u64 0,.int .u64 (x:Int)]:=by
  unfold u2 w2;rw[Nat.div_eq_of_lt hx,Nat.mod_eq_of_lt hx];rfl
theorem u3_of2{v:Nat}(hv:v<M2):u3 v= .agg [.int .u64 0,.int .u64 ((v/M1:Nat):Int),.int .u64 ((v%M1:Nat):Int)]:=by
  unfold u3 w3;rw[Nat.div_eq_of_lt hv,Nat.mod_eq_of_lt (h2_lt hv)];rfl
theorem low_of(v:Nat):w2 (v/M1%M1) (v%M1)=u2 (v%M2):=by
  unfold u2;rw[M2_eq,Nat.mod_mul_right_div_self,Nat.mod_mul_right_mod]
theorem add_hi{a b:Nat}:(a/M1+b/M1+(a%M1+b%M1)/M1)%M1=(a+b)%M2/M1:=by unfold M1 M2;omega
theorem add_lo{a b:Nat}:(a%M1+b%M1)%M1=(a+b)%M2%M1:=by unfold M1 M2;omega
theorem add_over{a b:Nat}:decide (((0:Nat):Int)<(((a/M1+b/M1+(a%M1+b%M1)/M1)/M1:Nat):Int))=decide (M2≤a+b):=by
  refine decide_eq_decide.2 ?_;unfold M1 M2;omega
theorem add_c{a b:Nat}:(a%M1+b%M1)/M1≤1:=by unfold M1;omega
end Go.Proofs.YtojblnldfdeefaaGreatDoor
namespace Go.Proofs.YtojblnldfdeefaaGreatDoor
open Go Go.RowKit
theorem or_sign{m:Nat}(h:m<9223372036854775808):(m|||9223372036854775808)=9223372036854775808+m:=by
  have:=or_add2 (a:=m) (b:=1) (k:=63) (by rw[show(2:Nat)^63=9223372036854775808 by decide];exact h);rw[show 1*(2:Nat)^63=9223372036854775808 by decide]at this;omega
theorem packM_lt{m:Nat}{u:Int}(hm:m≤9007199254740991):packM m u≤infN:=by
  unfold packM infN;split
  · omega
  split<;>omega
theorem mant_up{v:Nat}{e:Int}{more:Bool}(h:e<unitN v e):
    mantN v e more=(if v/2^((unitN v e-e).toNat-1)%2=1∧(v%2^((unitN v e-e).toNat-1)≠0∨more=true∨v/2^(unitN v e-e).toNat%2=1)then v/2^(unitN v e-e).toNat+1 else v/2^(unitN v e-e).toNat):=by
  unfold mantN;rw[if_neg (by omega)];rfl
theorem mant_same{v:Nat}{e:Int}{more:Bool}(h:unitN v e≤e):mantN v e more=v*2^(e-unitN v e).toNat:=by
  unfold mantN;rw[if_pos h]
theorem down_small{v:Nat}{e:Int}(h:e<unitN v e):v/2^((unitN v e-e).toNat-1)<18014398509481984:=by
  have hn:v<2^blen v:=blen_le.1 (Nat.le_refl _);rw[Nat.div_lt_iff_lt_mul (Nat.pow_pos (by decide)),show(18014398509481984:Nat)=2^54 by decide,←Nat.pow_add];refine Nat.lt_of_lt_of_le hn (Nat.pow_le_pow_right (by decide) ?_);unfold unitN at *;split at h<;>omega
theorem half_hi{x:Nat}(h:x<18014398509481984):x*2^63%M2/M1=x/2:=by
  have e63:(2:Nat)^63=9223372036854775808:=by decide
  rw[e63];unfold M1 M2;omega
theorem div_half{v k:Nat}(hk:1≤k):v/2^(k-1)/2=v/2^k:=by
  rw[Nat.div_div_eq_div_mul,←Nat.pow_succ,show(k-1).succ=k by omega]
theorem fup_small{v:Nat}{e:Int}(h:unitN v e≤e):v*2^(e-unitN v e).toNat<M1:=by
  have:=mant_le v e false;rw[mant_same h]at this;unfold M1;omega
theorem up_room{v:Nat}{e:Int}(h0:0<v)(h:unitN v e≤e):e-unitN v e≤52:=by
  have hb:0<blen v:=lt_blen.2 (show 2^0≤v from h0);unfold unitN at *;split at h<;>omega
end Go.Proofs.YtojblnldfdeefaaGreatDoor
-- shim
namespace Go.Proofs.YtojblnldfdeefaaGreatDoor
open Go Go.RowKit
end Go.Proofs.YtojblnldfdeefaaGreatDoor
-- shim
