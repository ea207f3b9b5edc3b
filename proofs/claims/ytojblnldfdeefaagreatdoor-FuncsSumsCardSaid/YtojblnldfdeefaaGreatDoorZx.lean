/-
  The document on naturals and numbers: what its sums stand on.
-/
import Derived.Test.YtojblnldfdeefaaGreatDoorP3x
set_option maxHeartbeats 1000000
namespace Go.Proofs.YtojblnldfdeefaaGreatDoor
open Go Go.RowKit
def rightN:List Nat→Nat
  | []=>0
  |x::xs=>if rightN xs=0∧x=0 then 0 else rightN xs+1
theorem limbs_Limbs(n:Nat):Limbs (limbs n):=by
  induction n using Nat.strongRecOn with
  |ind n ih=>
    rcases Nat.eq_zero_or_pos n with h|h
    · subst h;intro x hx;simp[limbs_zero]at hx
    rw[limbs_pos h];intro x hx;rcases List.mem_cons.1 hx with rfl|hx
    · omega
    exact ih _ (by omega) x hx
theorem Limbs.rep{n x:Nat}(h:x<4294967296):Limbs (List.replicate n x):=λy hy=>by rw[List.eq_of_mem_replicate hy];exact h
theorem val_zero_of_right:∀{xs:List Nat},rightN xs=0→val xs=0
  | [],_=>rfl
  |x::xs,h=>by
    unfold rightN at h;split at h
    · rename_i hc;rw[val,val_zero_of_right hc.1,hc.2]
    omega
theorem right_of_val_zero:∀{xs:List Nat},val xs=0→rightN xs=0
  | [],_=>rfl
  |x::xs,h=>by
    rw[val]at h;unfold rightN;rw[if_pos ⟨right_of_val_zero (by omega),by omega⟩]
theorem take_right:∀{xs:List Nat},Limbs xs→xs.take (rightN xs)=limbs (val xs)
  | [],_=>rfl
  |x::xs,h=>by
    obtain⟨hx,hxs⟩:=h.cons;unfold rightN;split
    · rename_i hc
      rw[val,val_zero_of_right hc.1,hc.2];rfl
    rename_i hc
    rw[List.take_succ_cons,take_right hxs];have hpos:0<val (x::xs):=by
      rw[val];rcases Nat.eq_zero_or_pos x with h0|h0
      · rcases Nat.eq_zero_or_pos (val xs)with h1|h1
        · exact absurd ⟨right_of_val_zero h1,h0⟩ hc
        omega
      omega
    rw[limbs_pos hpos];simp only[val];rw[show(x+4294967296*val xs)%4294967296=x by omega,show(x+4294967296*val xs)/4294967296=val xs by omega]
theorem right_le:∀(xs:List Nat),rightN xs≤xs.length
  | []=>Nat.le_refl _
  |x::xs=>by
    unfold rightN;have:=right_le xs;split<;>simp<;>omega
theorem right_len{xs:List Nat}(h:Limbs xs):rightN xs=(limbs (val xs)).length:=by
  rw[←take_right h,List.length_take];have:=right_le xs;omega
theorem right_take{xs:List Nat}{k:Nat}(hk:k<xs.length):rightN (xs.take (k+1))=if xs.getD k 0=0 then rightN (xs.take k)else k+1:=by
  induction xs generalizing k with
  |nil=>simp at hk
  |cons x xs ih=>
    cases k with
    |zero=>
      simp only[List.take_succ_cons,List.take_zero,List.getD_cons_zero];unfold rightN;simp[rightN]
    |succ k=>
      rw[List.take_succ_cons,List.take_succ_cons];have hk':k<xs.length:=by simpa using hk
      simp only[rightN,ih hk',List.getD_cons_succ];by_cases h:xs.getD k 0=0
      · rw[if_pos h,if_pos h]
      rw[if_neg h,if_neg h,if_neg (by omega)]
theorem val_rep(n:Nat):val (List.replicate n 0)=0:=by
  induction n with
  |zero=>rfl
  |succ n ih=>rw[List.replicate_succ,val,ih]
def BIG:Nat:=4294967296^256
def bigA(n:Nat):AV:=.slice 1 (U .u32 (limbs n)) .shared
theorem blen_zero:blen 0=0:=rfl
theorem blen_limbs{n:Nat}(h:0<n):blen n=32*((limbs n).length-1)+blen ((limbs n).getD ((limbs n).length-1) 0):=by
  induction n using Nat.strongRecOn with
  |ind n ih=>
    rw[limbs_pos h];rcases Nat.eq_zero_or_pos (n/4294967296)with h0|h0
    · rw[h0,limbs_zero];simp;congr 1;omega
    have:=ih _ (by omega) h0;have hpos:0<(limbs (n/4294967296)).length:=by rw[limbs_pos h0];simp
    rw[blen_shift (n:=n) (k:=32) (by omega) rfl,show(2:Nat)^32=4294967296 by decide,this,List.length_cons,show(limbs (n/4294967296)).length+1-1=((limbs (n/4294967296)).length-1)+1 by omega,List.getD_cons_succ];omega
theorem limbs_big{n:Nat}:256<(limbs n).length↔BIG≤n:=by
  have:=@limbs_len_le n 256;unfold BIG;omega
theorem limbs_256{n:Nat}(h:n<BIG):(limbs n).length≤256:=by
  have:=@limbs_big n;omega
end Go.Proofs.YtojblnldfdeefaaGreatDoor
set_option maxHeartbeats 1000000
namespace Go.Proofs.YtojblnldfdeefaaGreatDoor
open Go Go.RowKit
set_option maxRecDepth 100000
theorem rKind_calls(x:Nat)(hx:x<18446744073709551616)(H:Heap):ACall Tryz.prog 18 [.int .u64 (x:Int)] H (λy H'=>y= .int .i64 (kindN x:Int)∧H'=H):=by
  have hp:(2:Nat)^52=4503599627370496:=by decide
  refine ACall.of_body Tryz.func18 rfl Tryz.ntmps18 Tryz.results18 rfl ?_;iterate 8 refine AX ?_
  iterate 15 refine AM ?_
  rw[hp];iterate 4 refine AM ?_
  refine bool_casesL (t:=13) rfl (λhg13=>?_) (λhg13=>?_)
  · have hh13:=hg13;try simp only[decide_eq_true_eq]at hh13
    iterate 6 refine AM ?_
    refine AWP.cx rfl (λhc10=>?_) (λhc10=>?_)
    · iterate 9 refine AX ?_
      refine⟨?_,rfl⟩;simp only[packed,kindN];congr 1
      (repeat' split)<;>first|rfl|omega
    iterate 7 refine AM ?_
    refine AWP.cx rfl (λhc17=>?_) (λhc17=>?_)
    · iterate 9 refine AX ?_
      refine⟨?_,rfl⟩;simp only[packed,kindN];congr 1
      (repeat' split)<;>first|rfl|omega
    iterate 5 refine AM ?_
    refine bool_casesL (t:=23) rfl (λhg23=>?_) (λhg23=>?_)
    · have hh23:=hg23;try simp only[decide_eq_true_eq]at hh23
      iterate 6 refine AM ?_
      refine AWP.cx rfl (λhc20=>?_) (λhc20=>?_)
      · iterate 9 refine AX ?_
        refine⟨?_,rfl⟩;simp only[packed,kindN];congr 1
        (repeat' split)<;>first|rfl|omega
      iterate 7 refine AM ?_
      refine AWP.cx rfl (λhc27=>?_) (λhc27=>?_)
      · iterate 9 refine AX ?_
        refine⟨?_,rfl⟩;simp only[packed,kindN];congr 1
        (repeat' split)<;>first|rfl|omega
      iterate 10 refine AX ?_
      refine⟨?_,rfl⟩;simp only[packed,kindN];congr 1
      (repeat' split)<;>first|rfl|omega
    have hh23:=hg23;try simp only[decide_eq_false_iff_not]at hh23
    iterate 6 refine AX ?_
    refine AWP.cond_false (tm rfl) (by rfl) ?_;iterate 7 refine AM ?_
    refine AWP.cx rfl (λhc27=>?_) (λhc27=>?_)
    · iterate 9 refine AX ?_
      refine⟨?_,rfl⟩;simp only[packed,kindN];congr 1
      (repeat' split)<;>first|rfl|omega
    iterate 10 refine AX ?_
    refine⟨?_,rfl⟩;simp only[packed,kindN];congr 1
    (repeat' split)<;>first|rfl|omega
  have hh13:=hg13;try simp only[decide_eq_false_iff_not]at hh13
  iterate 6 refine AX ?_
  refine AWP.cond_false (tm rfl) (by rfl) ?_;iterate 7 refine AM ?_
  refine AWP.cx rfl (λhc17=>?_) (λhc17=>?_)
  · iterate 9 refine AX ?_
    refine⟨?_,rfl⟩;simp only[packed,kindN];congr 1
    (repeat' split)<;>first|rfl|omega
  iterate 5 refine AM ?_
  refine bool_casesL (t:=23) rfl (λhg23=>?_) (λhg23=>?_)
  · have hh23:=hg23;try simp only[decide_eq_true_eq]at hh23
    iterate 6 refine AM ?_
    refine AWP.cx rfl (λhc20=>?_) (λhc20=>?_)
    · iterate 9 refine AX ?_
      refine⟨?_,rfl⟩;simp only[packed,kindN];congr 1
      (repeat' split)<;>first|rfl|omega
    iterate 7 refine AM ?_
    refine AWP.cx rfl (λhc27=>?_) (λhc27=>?_)
    · iterate 9 refine AX ?_
      refine⟨?_,rfl⟩;simp only[packed,kindN];congr 1
      (repeat' split)<;>first|rfl|omega
    iterate 10 refine AX ?_
    refine⟨?_,rfl⟩;simp only[packed,kindN];congr 1
    (repeat' split)<;>first|rfl|omega
  have hh23:=hg23;try simp only[decide_eq_false_iff_not]at hh23
  iterate 6 refine AX ?_
  refine AWP.cond_false (tm rfl) (by rfl) ?_;iterate 7 refine AM ?_
  refine AWP.cx rfl (λhc27=>?_) (λhc27=>?_)
  · iterate 9 refine AX ?_
    refine⟨?_,rfl⟩;simp only[packed,kindN];congr 1
    (repeat' split)<;>first|rfl|omega
  iterate 10 refine AX ?_
  refine⟨?_,rfl⟩;simp only[packed,kindN];congr 1
  (repeat' split)<;>first|rfl|omega
theorem rIs_calls(x:Nat)(_:x<18446744073709551616)(H:Heap):ACall Tryz.prog 107 [.int .u64 (x:Int)] H (λy H'=>y= .bool (negB x)∧H'=H):=by
  refine ACall.of_body Tryz.func107 rfl Tryz.ntmps107 Tryz.results107 rfl ?_;iterate 14 refine AM ?_
  exact⟨rfl,rfl⟩
theorem rSplit_calls(x:Nat)(hx:x<18446744073709551616)(H:Heap):ACall Tryz.prog 112 [.int .u64 (x:Int)] H (λy H'=>y= .tuple [.bool (negB x),.int .u64 ((partM x:Nat):Int),.int .i64 (partE x)]∧H'=H):=by
  have hp:(2:Nat)^52=4503599627370496:=by decide
  have hk:=kindN_le x;refine ACall.of_body Tryz.func112 rfl Tryz.ntmps112 Tryz.results112 rfl ?_;iterate 4 refine AM ?_
  iterate 7 refine AX ?_
  refine .cl rfl Tryz.call18 (evs1 rfl) (rKind_calls _ (by assumption) _) ?_;iterate 3 refine AX ?_
  refine AWP.seqToL [(7,.bool (decide (kindN x≤1)))] [0,2,3,4,6] ?_ ?_
  · iterate 6 refine AX ?_
    refine AWP.cx rfl (λhc7=>?_) (λhc7=>?_)
    · refine AX ?_;exact⟨rfl,(sub_e rfl (by congr 1;symm;first|(exact decide_eq_true (by omega))|(by_cases h:kindN x≤1<;>simp[h]<;>omega)) sX),rfl⟩
    iterate 4 refine AX ?_
    exact⟨rfl,(sub_e rfl (by congr 1;symm;first|(exact decide_eq_true (by omega))|(by_cases h:kindN x≤1<;>simp[h]<;>omega)) sX),rfl⟩
  refine AWP.sub [(7,_),(0,_),(2,_),(3,_),(4,_),(6,_)] sX ?_;refine AWP.cx rfl (λhc7=>?_) (λhc7=>?_)
  · iterate 3 refine AX ?_
    refine .cl rfl Tryz.call107 (evs1 rfl) (rIs_calls _ (by assumption) _) ?_;iterate 4 refine AM ?_
    iterate 7 refine AX ?_
    refine⟨?_,rfl⟩;simp only[packed,partM,partE];rw[if_pos (by omega),if_pos (by omega)]<;>rfl
  iterate 6 refine AX ?_
  refine AWP.cx rfl (λhc14=>?_) (λhc14=>?_)
  · iterate 3 refine AX ?_
    refine .cl rfl Tryz.call107 (evs1 rfl) (rIs_calls _ (by assumption) _) ?_;iterate 2 refine AM ?_
    refine .p rfl (pure_addX64 (ev_nat 4503599627370496) (tm rfl) (by omega)) ?_;iterate 4 refine AM ?_
    iterate 10 refine AX ?_
    refine⟨?_,rfl⟩;simp only[packed,partM,partE];rw[if_neg (by omega),if_pos (by omega),if_neg (by omega),if_pos (by omega),hp]<;>rfl
  iterate 6 refine AX ?_
  refine .cl rfl Tryz.call107 (evs1 rfl) (rIs_calls _ (by assumption) _) ?_;iterate 2 refine AM ?_
  iterate 5 refine AX ?_
  refine⟨?_,rfl⟩;simp only[packed,partM,partE];rw[if_neg (by omega),if_neg (by omega),if_neg (by omega),if_neg (by omega)]<;>rfl
end Go.Proofs.YtojblnldfdeefaaGreatDoor
set_option maxHeartbeats 1000000
namespace Go.Proofs.YtojblnldfdeefaaGreatDoor
open Go Go.RowKit
set_option maxRecDepth 100000
theorem limb_parts{x c:Nat}(hx:x<4294967296)(hc:c≤1):2*x+c<18446744073709551616∧(2*x+c)/4294967296≤1:=by omega
theorem twice_step{zs xs:List Nat}{i c:Nat}(hi:zs.length=i){d:Nat}(h:val zs+4294967296^i*c=2*val (xs.take i)+d):
    val (zs++[(2*xs.getD i 0+c)%4294967296])+4294967296^(i+1)*((2*xs.getD i 0+c)/4294967296)=2*val (xs.take (i+1))+d:=by
  rw[val_append,hi,val_take_next,Nat.pow_succ];simp only[val,Nat.mul_zero,Nat.add_zero];have e:=Nat.mod_add_div (2*xs.getD i 0+c) 4294967296;have e2:4294967296^i*((2*xs.getD i 0+c)%4294967296)+4294967296^i*4294967296*((2*xs.getD i 0+c)/4294967296)=2*(4294967296^i*xs.getD i 0)+4294967296^i*c:=by
    rw[Nat.mul_assoc,←Nat.mul_add,e,Nat.mul_add,Nat.mul_left_comm]
  omega
theorem bit_limb{xs:List Nat}(hx:Limbs xs)(i:Nat):xs.getD (i/32) 0/2^(i%32)%2=val xs/2^i%2:=by
  have key:∀(xs:List Nat)(j:Nat),Limbs xs→xs.getD j 0=val xs/4294967296^j%4294967296:=by
    intro xs;induction xs with
    |nil=>intro j _;simp[val]
    |cons x xs ih=>
      intro j hl;obtain⟨h1,h2⟩:=hl.cons;cases j with
      |zero=>rw[Nat.pow_zero,Nat.div_one,val,Nat.add_mul_mod_self_left,Nat.mod_eq_of_lt h1];rfl
      |succ j=>
        rw[List.getD_cons_succ,ih j h2,Nat.pow_succ,Nat.mul_comm (4294967296^j),←Nat.div_div_eq_div_mul,val,Nat.add_mul_div_left _ _ (by decide),Nat.div_eq_of_lt h1,Nat.zero_add]
  rw[key xs _ hx];have e:(4294967296:Nat)=2^32:=by decide
  rw[e,←Nat.pow_mul];have h32:i%32<32:=Nat.mod_lt _ (by decide);generalize val xs=v;have hi:i=32*(i/32)+i%32:=(Nat.div_add_mod i 32).symm;generalize i/32=a at *;generalize i%32=r at *;subst hi;rw[Nat.pow_add,←Nat.div_div_eq_div_mul];generalize v/2^(32*a)=w;rw[show(32:Nat)=r+(32-r) by omega,Nat.pow_add,Nat.mod_mul,Nat.add_mul_div_left _ _ (Nat.pow_pos (by decide)),Nat.div_eq_of_lt (Nat.mod_lt _ (Nat.pow_pos (by decide))),Nat.zero_add];rw[show 32-r=(31-r)+1 by omega,Nat.pow_succ,Nat.mul_comm,Nat.mod_mul_right_mod]
def rtrim_J(xs:List Nat)(tl:Tail)(H:Heap):Nat→Env→Heap→Prop:=λk env H1=>∃n:Nat,n≤xs.length∧rightN (xs.take n)=rightN xs∧env=[(0,.slice 1 (U .u32 xs) tl),(3,.int .i64 (n:Int))]∧H=H1∧k=n
theorem rTrim_calls(xs:List Nat)(tl:Tail)(hx:Limbs xs)(hl:xs.length≤1000000)(H:Heap):ACall Tryz.prog 195 [.slice 1 (U .u32 xs) tl] H (λy H'=>y=bigA (val xs)∧H'=H):=by
  refine ACall.of_body Tryz.func195 rfl Tryz.ntmps195 Tryz.results195 rfl ?_;iterate 14 refine AX ?_
  refine AWP.loopW (rtrim_J xs tl H) (xs.length) ⟨xs.length,Nat.le_refl _,by rw[List.take_length],rfl,rfl,rfl⟩ sX (Heap.le.refl _) ?_;rintro _ _ _ ⟨n,hn,hr,rfl,rfl,hk⟩;refine AX ?_;refine AWP.seqTo 15 (.bool (decide (0<(n:Int))&&decide (((xs.getD (n-1) 0:Nat):Int)=0))) [0,3] ?_ ?_
  · iterate 4 refine AX ?_
    refine bool_casesL (t:=8) rfl (λhg8=>?_) (λhg8=>?_)
    · have hh8:=hg8;try simp only[decide_eq_true_eq]at hh8
      iterate 3 refine AX ?_
      refine .gp rfl rfl rfl (by assumption) (pure_indexU (n-1) Tryz.underlying158 Tryz.sizeOf81 (tm rfl) (tm rfl) (by omega) (by omega)) ?_;iterate 4 refine AM ?_
      exact⟨rfl,sub_b rfl (by simp_all) sX,rfl⟩
    have hh8:=hg8;try simp only[decide_eq_false_iff_not,Int.not_lt]at hh8
    iterate 8 refine AX ?_
    exact⟨rfl,sub_b rfl (by simp_all) sX,rfl⟩
  refine AWP.sub [(15,_),(0,_),(3,_)] sX ?_;refine AWP.cx rfl (λhc15=>?_) (λhc15=>?_)
  · simp only[Bool.and_eq_true,decide_eq_true_eq]at hc15;iterate 10 refine AX ?_
    have hs:=right_take (xs:=xs) (k:=n-1) (by omega);rw[show n-1+1=n by omega,if_pos (by omega)]at hs;refine Round.mk (J:=rtrim_J xs tl H) ⟨n-1,by omega,by rw[←hs,hr],rfl,rfl,rfl⟩ (sub_c rfl (sub_e rfl (by rw[show((n:Int)-1)=((n-1:Nat):Int) by omega]) sub_n)) (Heap.le.refl _) (by omega)
  simp only[Bool.and_eq_false_iff,decide_eq_false_iff_not]at hc15;iterate 7 refine AX ?_
  refine .e rfl (step_bs0 Tryz.underlying158 Tryz.sizeOf81 Tryz.zeroValue81) ?_;iterate 2 refine AX ?_
  refine .p rfl (pure_sliceHiU (_) Tryz.underlying158 Tryz.sizeOf81 (tm rfl) (tm rfl) rfl (by omega)) ?_;refine .e rfl (step_appendS Tryz.underlying158 Tryz.underlying158 Tryz.sizeOf81 Tryz.typeInfo81 Tryz.zeroValue81 rfl (by decide) (tm rfl) (tm rfl) (by show(_+_)*4≤_;simp only[U_len,List.length_take,List.length_nil];omega) (by repeat' (first|exact row_int _|exact row_n|exact row_c ⟨rfl,rfl⟩ row_n|exact row_drop (row_int _)|exact row_take (row_int _)|refine row_app ?_ ?_ |exact(λ_ h=>by simp at h))) (by repeat' (first|exact row_int _|exact row_n|exact row_c ⟨rfl,rfl⟩ row_n|exact row_drop (row_int _)|exact row_take (row_int _)|refine row_app ?_ ?_ |exact U_row _ _))) ?_;iterate 5 refine AX ?_
  refine⟨?_,rfl⟩;have hq:n=rightN xs:=by
    rcases Nat.eq_zero_or_pos n with h0|h0
    · subst h0;rw[←hr];rfl
    have hs:=right_take (xs:=xs) (k:=n-1) (by omega);rw[show n-1+1=n by omega,if_neg (by omega),hr]at hs;exact hs.symm
  rw[hq,List.nil_append,take_right hx];rfl
theorem rOf_calls(v:Nat)(hv:v<18446744073709551616)(H:Heap):ACall Tryz.prog 196 [.int .u64 (v:Int)] H (λy H'=>y=bigA v∧H'=H):=by
  refine ACall.of_body Tryz.func196 rfl Tryz.ntmps196 Tryz.results196 rfl ?_;iterate 8 refine AX ?_
  iterate 5 refine AM ?_
  refine .e rfl (step_bs2 Tryz.underlying158 Tryz.sizeOf81 Tryz.zeroValue81 rfl (tm rfl) (.inl rfl) ⟨rfl,rfl⟩ (tm rfl) (.inl rfl) ⟨rfl,rfl⟩) ?_;refine .cl rfl Tryz.call195 (evs1 rfl) (rTrim_calls [v%4294967296%2^IntKind.u32.bits,v/2^32%2^IntKind.u32.bits] .full (Limbs.mk (by simp only[IntKind.bits];omega) (Limbs.mk (by simp only[IntKind.bits];omega) Limbs.nil)) (by simp) _) ?_;iterate 5 refine AX ?_
  refine⟨?_,rfl⟩;show bigA _=_;congr 1;simp only[val,IntKind.bits];omega
theorem rlimb_calls(xs:List Nat)(tl:Tail)(hx:Limbs xs)(_:xs.length≤1000000)(i:Nat)(q:Int)(hq:q=(i:Int))(H:Heap):ACall Tryz.prog 272 [.slice 1 (U .u32 xs) tl,.int .i64 q] H (λy H'=>y= .int .u64 ((xs.getD i 0:Nat):Int)∧H'=H):=by
  subst hq;have hg:=hx.getD i;refine ACall.of_body Tryz.func272 rfl Tryz.ntmps272 Tryz.results272 rfl ?_;iterate 6 refine AM ?_
  refine AWP.seqTo 12 (.bool (decide ((i:Int)<0)||decide ((xs.length:Int)≤(i:Int)))) [0,1,4] ?_ ?_
  · iterate 2 refine AX ?_
    refine .p rfl (pure_lss (tm rfl) ev_int) ?_;refine .mv rfl rfl ?_;refine bool_casesL (t:=7) rfl (λhg7=>?_) (λhg7=>?_)
    · have hh7:=hg7;try simp only[decide_eq_true_eq]at hh7
      refine .gn rfl rfl rfl (by assumption) ?_;refine .gn rfl rfl rfl (by assumption) ?_;refine .gn rfl rfl rfl (by assumption) ?_;refine .gn rfl rfl rfl (by assumption) ?_;refine .p rfl (pure_pickT (tm rfl) (by assumption) ev_bool) ?_;refine .nil ?_;exact⟨rfl,sub_b rfl (by(simp[*];done)) sX,rfl⟩
    have hh7:=hg7;try simp only[decide_eq_false_iff_not,Int.not_lt]at hh7
    iterate 6 refine AX ?_
    exact⟨rfl,sub_b rfl (by rfl) sX,rfl⟩
  refine AWP.sub [(12,_),(0,_),(1,_),(4,_)] sX ?_;refine AWP.cond (tm rfl) (λhc12=>?_) (λhc12=>?_)
  · try simp only[decide_eq_true_eq,decide_eq_false_iff_not,Bool.not_eq_true',Bool.not_eq_false',Int.not_lt,Int.not_le,ne_eq,Decidable.not_not]at hc12
    simp only[Bool.or_eq_true,decide_eq_true_eq]at hc12;iterate 7 refine AM ?_
    refine Ret.go (.cons (.tmp _ _ rfl) .nil) _ (Heap.le.refl _) ?_;refine⟨?_,rfl⟩;rw[getD_out (by omega)];rfl
  try simp only[decide_eq_true_eq,decide_eq_false_iff_not,Bool.not_eq_true',Bool.not_eq_false',Int.not_lt,Int.not_le,ne_eq,Decidable.not_not]at hc12
  simp only[Bool.or_eq_false_iff,decide_eq_false_iff_not]at hc12;iterate 6 refine AX ?_
  refine .p rfl (pure_indexU (i) Tryz.underlying158 Tryz.sizeOf81 (tm rfl) (tm rfl) (by omega) (by omega)) ?_;iterate 6 refine AX ?_
  refine Ret.go (.cons (.tmp _ _ rfl) .nil) _ (Heap.le.refl _) ?_;exact⟨rfl,rfl⟩
theorem rBit_calls(xs:List Nat)(tl:Tail)(hx:Limbs xs)(hl:xs.length≤1000000)(i:Nat)(hi:i≤1000000000)(q:Int)(hq:q=(i:Int))(H:Heap):ACall Tryz.prog 193 [.slice 1 (U .u32 xs) tl,.int .i64 q] H (λy H'=>y= .bool (decide (((val xs/2^i%2:Nat):Int)=1))∧H'=H):=by
  subst hq;have hg:=hx.getD (i/32);refine ACall.of_body Tryz.func193 rfl Tryz.ntmps193 Tryz.results193 rfl ?_;iterate 10 refine AM ?_
  refine .cl rfl Tryz.call272 (evs2 rfl rfl) (rlimb_calls _ _ (by assumption) (by assumption) _ _ rfl _) ?_;iterate 3 refine AM ?_
  refine .p rfl (pure_shr64 (tm rfl) (tm rfl) (by omega)) ?_;iterate 7 refine AM ?_
  refine⟨?_,rfl⟩;rw[←bit_limb hx];rfl
theorem rTrimX{zs:List Nat}(c:Nat)(m:Int)(tl:Tail)(hz:Limbs zs)(hm:m=(c:Int))(hc:c<4294967296)(hl:zs.length+1≤1000000)(H:Heap):
    ACall Tryz.prog 195 [.slice 1 (U .u32 zs++[.int .u32 m]) tl] H (λy H'=>y=bigA (val zs+4294967296^zs.length*c)∧H'=H):=by
  subst hm;have:=rTrim_calls (zs++[c]) tl (hz.append (Limbs.mk hc Limbs.nil)) (by simp;omega) H;rw[←U_app,val_append]at this;simp only[val,Nat.mul_zero,Nat.add_zero]at this;exact this
theorem U_snoc{zs:List Nat}{m:Int}(c:Nat)(hm:m=(c:Int)):U .u32 zs++[.int .u32 m]=U .u32 (zs++[c]):=by
  subst hm;rw[←U_app];rfl
theorem lim_snoc{zs:List Nat}{c:Nat}(h:Limbs zs)(hc:c<4294967296):Limbs (zs++[c]):=h.append (Limbs.mk hc Limbs.nil)
def rtw_J(xs:List Nat)(tl:Tail)(b:Bool)(H:Heap):Nat→Env→Heap→Prop:=λk env H1=>∃(i t:Nat)(zs:List Nat)(c:Nat),i≤xs.length∧zs.length=i∧Limbs zs∧c≤1∧val zs+4294967296^i*c=2*val (xs.take i)+b.toNat∧env=[(0,.slice 1 (U .u32 xs) tl),(5,.slice 1 (U .u32 zs) (.own t)),(6,.int .u64 (c:Int)),(7,.int .i64 (i:Int))]∧H.le H1∧H1.toks t=true∧H.toks t=false∧k=xs.length-i
theorem rTwice_calls(xs:List Nat)(tl:Tail)(hx:Limbs xs)(hl:xs.length≤900000)(b:Bool)(H:Heap):ACall Tryz.prog 197 [.slice 1 (U .u32 xs) tl,.bool b] H (λy H'=>y=bigA (2*val xs+b.toNat)∧H'=H):=by
  have hle0:=Heap.le.refl H;refine ACall.of_body Tryz.func197 rfl Tryz.ntmps197 Tryz.results197 rfl ?_;iterate 12 refine AX ?_
  iterate 3 refine AM ?_
  refine AWP.seqToL [(6,.int .u64 ((b.toNat:Nat):Int))] [0,4,5] ?_ ?_
  · iterate 5 refine AX ?_
    refine AWP.cx rfl (λhc9=>?_) (λhc9=>?_)
    · iterate 3 refine AM ?_
      exact⟨rfl,(sub_e rfl (by simp[hc9]) sX),rfl⟩
    refine AX ?_;exact⟨rfl,(sub_e rfl (by simp[hc9]) sX),rfl⟩
  refine AWP.sub [(6,_),(0,_),(4,_),(5,_)] sX ?_;iterate 7 refine AX ?_
  refine AWP.tag (t:=5) rfl (λu5 hu5=>?_);have hfu5:=Heap.fresh_of hle0 hu5;have hleu5:=Heap.le_in hle0 u5;refine AWP.loopW (rtw_J xs tl b H) (xs.length) ⟨0,u5,[],b.toNat,Nat.zero_le _,rfl,Limbs.nil,by cases b<;>decide,by simp[val],rfl,hleu5,Heap.toks_live_same _ _,hfu5,by omega⟩ sX (Heap.le.refl _) ?_;rintro _ _ H1 ⟨i,t,zs,c,hi,hzl,hz,hc,hv,rfl,hle,hlive,hfr,rfl⟩;have hg:=hx.getD i;obtain⟨hp1,hp2⟩:=limb_parts hg hc;iterate 9 refine AX ?_
  refine AWP.cx rfl (λhc13=>?_) (λhc13=>?_)
  · iterate 8 refine AX ?_
    refine .p rfl (pure_indexU (_) Tryz.underlying158 Tryz.sizeOf81 (tm rfl) (tm rfl) rfl (by omega)) ?_;iterate 2 refine AX ?_
    refine .p rfl (pure_mulX64 (ev_nat 2) (tm rfl) (by omega)) ?_;iterate 11 refine AM ?_
    refine .e rfl (step_bs1 Tryz.underlying158 Tryz.sizeOf81 Tryz.zeroValue81 rfl (tm rfl) (.inl rfl) ⟨rfl,rfl⟩) ?_;refine .s rfl (step_append Tryz.underlying158 Tryz.underlying158 Tryz.sizeOf81 Tryz.typeInfo81 Tryz.zeroValue81 rfl (by decide) (tm rfl) (tm rfl) (by exact .own _ (by assumption)) (by show(_+_)*4≤_;simp only[U_len,List.length_nil,List.length_cons];omega) (by repeat' (first|exact row_int _|exact row_n|exact row_c ⟨rfl,rfl⟩ row_n|exact row_drop (row_int _)|exact row_take (row_int _)|refine row_app ?_ ?_ |exact U_row _ _)) (by repeat' (first|exact row_int _|exact row_n|exact row_c ⟨rfl,rfl⟩ row_n|exact row_drop (row_int _)|exact row_take (row_int _)|refine row_app ?_ ?_))) ?_;rintro _ _ ⟨t29,ht29,rfl,hH⟩;obtain rfl:=hH.symm;have hf29:=Heap.fresh_of hle ht29;have hle29:=Heap.le_in (Heap.le_out (t:=t) hle (by assumption)) t29;iterate 12 refine AM ?_
    iterate 4 refine AX ?_
    refine Round.mk (J:=rtw_J xs tl b H) ⟨i+1,t29,zs++[(2*xs.getD i 0+c)%4294967296],(2*xs.getD i 0+c)/4294967296,by omega,by simp[hzl],lim_snoc hz (Nat.mod_lt _ (by decide)),hp2,twice_step hzl hv,rfl,hle29,Heap.toks_live_same _ _,hf29,rfl⟩ (sub_c rfl (sub_e rfl (slice_eq (U_snoc _ (by simp only[IntKind.bits];rw[Nat.mod_eq_of_lt (Nat.mod_lt _ (by decide))]))) sX)) (Heap.le.refl _) (by omega)
  iterate 10 refine AX ?_
  refine .e rfl (step_bs1 Tryz.underlying158 Tryz.sizeOf81 Tryz.zeroValue81 rfl (tm rfl) (.inl rfl) ⟨rfl,rfl⟩) ?_;refine .s rfl (step_append Tryz.underlying158 Tryz.underlying158 Tryz.sizeOf81 Tryz.typeInfo81 Tryz.zeroValue81 rfl (by decide) (tm rfl) (tm rfl) (by exact .own _ (by assumption)) (by show(_+_)*4≤_;simp only[U_len,List.length_nil,List.length_cons];omega) (by repeat' (first|exact row_int _|exact row_n|exact row_c ⟨rfl,rfl⟩ row_n|exact row_drop (row_int _)|exact row_take (row_int _)|refine row_app ?_ ?_ |exact U_row _ _)) (by repeat' (first|exact row_int _|exact row_n|exact row_c ⟨rfl,rfl⟩ row_n|exact row_drop (row_int _)|exact row_take (row_int _)|refine row_app ?_ ?_))) ?_;rintro _ _ ⟨t36,ht36,rfl,hH⟩;obtain rfl:=hH.symm;have hf36:=Heap.fresh_of hle ht36;have hle36:=Heap.le_in (Heap.le_out (t:=t) hle (by assumption)) t36;iterate 6 refine AX ?_
  refine .cl rfl Tryz.call195 (evs1 rfl) (rTrimX c _ _ hz (by simp only[IntKind.bits];omega) (by omega) (by omega) _) ?_;iterate 4 refine AX ?_
  refine Ret.go (.cons (.tmp _ _ rfl) .nil) _ (hle36) ?_;refine⟨?_,rfl⟩;have hix:i=xs.length:=by omega
  rw[hzl,hv,hix,List.take_length];rfl
theorem plus_step{zs xs ys:List Nat}{i c:Nat}(hi:zs.length=i)(h:val zs+4294967296^i*c=val (xs.take i)+val (ys.take i)):
    val (zs++[(xs.getD i 0+ys.getD i 0+c)%4294967296])+4294967296^(i+1)*((xs.getD i 0+ys.getD i 0+c)/4294967296)=val (xs.take (i+1))+val (ys.take (i+1)):=by
  rw[val_append,hi,val_take_next,val_take_next,Nat.pow_succ];simp only[val,Nat.mul_zero,Nat.add_zero];have e:=Nat.mod_add_div (xs.getD i 0+ys.getD i 0+c) 4294967296;have e2:4294967296^i*((xs.getD i 0+ys.getD i 0+c)%4294967296)+4294967296^i*4294967296*((xs.getD i 0+ys.getD i 0+c)/4294967296)=4294967296^i*xs.getD i 0+4294967296^i*ys.getD i 0+4294967296^i*c:=by
    rw[Nat.mul_assoc,←Nat.mul_add,e,Nat.mul_add,Nat.mul_add]
  omega
theorem plus_parts{x y c:Nat}(hx:x<4294967296)(hy:y<4294967296)(hc:c≤1):(x+y+c)/4294967296≤1:=by omega
def rplus_J(xs ys:List Nat)(tl tl2:Tail)(H:Heap):Nat→Env→Heap→Prop:=λk env H1=>∃(i t:Nat)(zs:List Nat)(c:Nat),zs.length=i∧i≤100000∧Limbs zs∧c≤1∧val zs+4294967296^i*c=val (xs.take i)+val (ys.take i)∧env=[(0,.slice 1 (U .u32 xs) tl),(1,.slice 1 (U .u32 ys) tl2),(5,.slice 1 (U .u32 zs) (.own t)),(6,.int .u64 (c:Int)),(7,.int .i64 (i:Int))]∧H.le H1∧H1.toks t=true∧H.toks t=false∧k=xs.length+ys.length-i
theorem rPlus_calls(xs:List Nat)(tl:Tail)(hx:Limbs xs)(hl:xs.length≤100000)(ys:List Nat)(tl2:Tail)(hy:Limbs ys)(hm:ys.length≤100000)(H:Heap):ACall Tryz.prog 188 [.slice 1 (U .u32 xs) tl,.slice 1 (U .u32 ys) tl2] H (λy H'=>y=bigA (val xs+val ys)∧H'=H):=by
  have hle0:=Heap.le.refl H;refine ACall.of_body Tryz.func188 rfl Tryz.ntmps188 Tryz.results188 rfl ?_;iterate 12 refine AX ?_
  iterate 6 refine AM ?_
  iterate 4 refine AX ?_
  refine AWP.tag (t:=5) rfl (λu5 hu5=>?_);have hfu5:=Heap.fresh_of hle0 hu5;have hleu5:=Heap.le_in hle0 u5;refine AWP.loopW (rplus_J xs ys tl tl2 H) (xs.length+ys.length) ⟨0,u5,[],0,rfl,Nat.zero_le _,Limbs.nil,by decide,by simp[val],rfl,hleu5,Heap.toks_live_same _ _,hfu5,by omega⟩ sX (Heap.le.refl _) ?_;rintro _ _ H1 ⟨i,t,zs,c,hzl,hi,hz,hc,hv,rfl,hle,hlive,hfr,rfl⟩;refine AX ?_;refine AWP.seqTo 18 (.bool (decide ((i:Int)<(xs.length:Int))||decide ((i:Int)<(ys.length:Int)))) [0,1,5,6,7] ?_ ?_
  · iterate 6 refine AX ?_
    refine bool_casesL (t:=13) rfl (λhg13=>?_) (λhg13=>?_)
    · have hh13:=hg13;try simp only[decide_eq_true_eq]at hh13
      iterate 6 refine AX ?_
      exact⟨rfl,sub_b rfl (by(rw[hg13];rfl)) sX,rfl⟩
    have hh13:=hg13;try simp only[decide_eq_false_iff_not,Int.not_lt]at hh13
    iterate 6 refine AX ?_
    exact⟨rfl,sub_b rfl (by(rw[hg13];rfl)) sX,rfl⟩
  refine AWP.sub [(18,_),(0,_),(1,_),(5,_),(6,_),(7,_)] sX ?_;refine AWP.cx rfl (λhc18=>?_) (λhc18=>?_)
  · simp only[Bool.or_eq_true,decide_eq_true_eq]at hc18;have hgx:=hx.getD i;have hgy:=hy.getD i;have hcc:=plus_parts hgx hgy hc;iterate 8 refine AX ?_
    refine .cl rfl Tryz.call272 (evs2 rfl rfl) (rlimb_calls _ _ (by assumption) (by omega) _ _ rfl _) ?_;iterate 2 refine AX ?_
    refine .cl rfl Tryz.call272 (evs2 rfl rfl) (rlimb_calls _ _ (by assumption) (by omega) _ _ rfl _) ?_;iterate 12 refine AM ?_
    refine .e rfl (step_bs1 Tryz.underlying158 Tryz.sizeOf81 Tryz.zeroValue81 rfl (tm rfl) (.inl rfl) ⟨rfl,rfl⟩) ?_;refine .s rfl (step_append Tryz.underlying158 Tryz.underlying158 Tryz.sizeOf81 Tryz.typeInfo81 Tryz.zeroValue81 rfl (by decide) (tm rfl) (tm rfl) (by exact .own _ (by assumption)) (by show(_+_)*4≤_;simp only[U_len,List.length_nil,List.length_cons];omega) (by repeat' (first|exact row_int _|exact row_n|exact row_c ⟨rfl,rfl⟩ row_n|exact row_drop (row_int _)|exact row_take (row_int _)|refine row_app ?_ ?_ |exact U_row _ _)) (by repeat' (first|exact row_int _|exact row_n|exact row_c ⟨rfl,rfl⟩ row_n|exact row_drop (row_int _)|exact row_take (row_int _)|refine row_app ?_ ?_))) ?_;rintro _ _ ⟨t35,ht35,rfl,hH⟩;obtain rfl:=hH.symm;have hf35:=Heap.fresh_of hle ht35;have hle35:=Heap.le_in (Heap.le_out (t:=t) hle (by assumption)) t35;iterate 5 refine AX ?_
    refine .p rfl (pure_shr64 (tm rfl) (ev_nat 32) (by omega)) ?_;iterate 10 refine AX ?_
    refine Round.mk (J:=rplus_J xs ys tl tl2 H) ⟨i+1,t35,zs++[(xs.getD i 0+ys.getD i 0+c)%4294967296],(xs.getD i 0+ys.getD i 0+c)/4294967296,by simp[hzl],by omega,lim_snoc hz (Nat.mod_lt _ (by decide)),hcc,plus_step hzl hv,rfl,hle35,Heap.toks_live_same _ _,hf35,rfl⟩ (sub_c rfl (sub_c rfl (sub_e rfl (slice_eq (U_snoc _ (by simp only[IntKind.bits];rw[Nat.mod_eq_of_lt (Nat.mod_lt _ (by decide))]))) sX))) (Heap.le.refl _) (by omega)
  simp only[Bool.or_eq_false_iff,decide_eq_false_iff_not]at hc18;iterate 10 refine AX ?_
  refine .e rfl (step_bs1 Tryz.underlying158 Tryz.sizeOf81 Tryz.zeroValue81 rfl (tm rfl) (.inl rfl) ⟨rfl,rfl⟩) ?_;refine .s rfl (step_append Tryz.underlying158 Tryz.underlying158 Tryz.sizeOf81 Tryz.typeInfo81 Tryz.zeroValue81 rfl (by decide) (tm rfl) (tm rfl) (by exact .own _ (by assumption)) (by show(_+_)*4≤_;simp only[U_len,List.length_nil,List.length_cons];omega) (by repeat' (first|exact row_int _|exact row_n|exact row_c ⟨rfl,rfl⟩ row_n|exact row_drop (row_int _)|exact row_take (row_int _)|refine row_app ?_ ?_ |exact U_row _ _)) (by repeat' (first|exact row_int _|exact row_n|exact row_c ⟨rfl,rfl⟩ row_n|exact row_drop (row_int _)|exact row_take (row_int _)|refine row_app ?_ ?_))) ?_;rintro _ _ ⟨t42,ht42,rfl,hH⟩;obtain rfl:=hH.symm;have hf42:=Heap.fresh_of hle ht42;have hle42:=Heap.le_in (Heap.le_out (t:=t) hle (by assumption)) t42;iterate 6 refine AX ?_
  refine .cl rfl Tryz.call195 (evs1 rfl) (rTrimX c _ _ hz (by simp only[IntKind.bits];omega) (by omega) (by omega) _) ?_;iterate 4 refine AX ?_
  refine Ret.go (.cons (.tmp _ _ rfl) .nil) _ (hle42) ?_;refine⟨?_,rfl⟩;rw[List.take_of_length_le (by omega),List.take_of_length_le (by omega)]at hv;rw[hzl,hv];rfl
theorem or_bit{gl s:Nat}(hs:s<32)(hg:gl<4294967296)(h0:gl%2^(s+1)=0):gl|||2^s=gl+2^s∧gl+2^s<4294967296:=by
  obtain⟨q,rfl⟩:=Nat.dvd_of_mod_eq_zero h0;have hlt:2^s<2^(s+1):=Nat.pow_lt_pow_right (by decide) (by omega);refine⟨by rw[Nat.mul_comm];exact or_add hlt,?_⟩;have e:(4294967296:Nat)=2^(s+1)*2^(31-s):=by rw[←Nat.pow_add,show s+1+(31-s)=32 by omega]
  rw[e]at hg ⊢;have h1:=Nat.lt_of_mul_lt_mul_left hg;have h2:2^(s+1)*(q+1)≤2^(s+1)*2^(31-s):=Nat.mul_le_mul_left _ h1;rw[Nat.mul_add,Nat.mul_one]at h2;omega
theorem limb_of(xs:List Nat)(j:Nat)(hl:Limbs xs):xs.getD j 0=val xs/4294967296^j%4294967296:=by
  induction xs generalizing j with
  |nil=>simp[val]
  |cons x xs ih=>
    obtain⟨h1,h2⟩:=hl.cons;cases j with
    |zero=>rw[Nat.pow_zero,Nat.div_one,val,Nat.add_mul_mod_self_left,Nat.mod_eq_of_lt h1];rfl
    |succ j=>
      rw[List.getD_cons_succ,ih j h2,Nat.pow_succ,Nat.mul_comm (4294967296^j),←Nat.div_div_eq_div_mul,val,Nat.add_mul_div_left _ _ (by decide),Nat.div_eq_of_lt h1,Nat.zero_add]
theorem low_limb{zs:List Nat}{i Q:Nat}(hz:Limbs zs)(h:val zs=2^(i+1)*Q):zs.getD (i/32) 0%2^(i%32+1)=0:=by
  rw[limb_of zs _ hz,h];have e:(4294967296:Nat)=2^32:=by decide
  rw[e,←Nat.pow_mul];have h32:i%32<32:=Nat.mod_lt _ (by decide);have hi:i=32*(i/32)+i%32:=(Nat.div_add_mod i 32).symm;generalize i/32=a at *;generalize i%32=r at *;subst hi;rw[Nat.add_assoc,Nat.pow_add,Nat.mul_assoc,Nat.mul_div_cancel_left _ (Nat.pow_pos (by decide))];rw[Nat.mod_mod_of_dvd _ (Nat.pow_dvd_pow 2 (by omega:r+1≤32))];exact Nat.mul_mod_right _ _
theorem parts_bit{zs:List Nat}{i Q:Nat}(_:Limbs zs)(hl:i/32<zs.length)(h:val zs=2^(i+1)*Q):val (zs.set (i/32) (zs.getD (i/32) 0+2^(i%32)))=2^i*(2*Q+1):=by
  have e:=val_set (zs:=zs) (i:=i/32) (v:=zs.getD (i/32) 0+2^(i%32)) hl;have e2:(4294967296:Nat)^(i/32)*2^(i%32)=2^i:=by
    rw[show(4294967296:Nat)=2^32 by decide,←Nat.pow_mul,←Nat.pow_add,Nat.div_add_mod]
  rw[Nat.mul_add,e2]at e;have e3:2^i*(2*Q+1)=2^(i+1)*Q+2^i:=by rw[Nat.mul_add,Nat.pow_succ,Nat.mul_one,Nat.mul_assoc]
  omega
theorem parts_next{a b Q r j:Nat}(h:a/2^(j+1)=Q*b+r):a/2^j=2*Q*b+(2*r+a/2^j%2):=by
  have h1:a/2^(j+1)=a/2^j/2:=by rw[Nat.pow_succ,Nat.div_div_eq_div_mul]
  rw[h1]at h;have h2:=Nat.div_add_mod (a/2^j) 2;rw[h,Nat.mul_add,←Nat.mul_assoc]at h2;omega
def PartsOK(a b:Nat)(zs:List Nat)(r j:Nat):Prop:=∃Q,a/2^j=Q*b+r∧r<b∧val zs=2^j*Q
theorem PartsOK.lt{a b r j:Nat}{zs:List Nat}(h:PartsOK a b zs r j):r<b:=by obtain⟨_,_,h,_⟩:=h;exact h
theorem PartsOK.take{a b r j:Nat}{zs:List Nat}(h:PartsOK a b zs r (j+1))(hz:Limbs zs)(hl:j/32<zs.length)(hb:b≤2*r+a/2^j%2):PartsOK a b (zs.set (j/32) (zs.getD (j/32) 0+2^(j%32))) (2*r+a/2^j%2-b) j:=by
  obtain⟨Q,h1,h2,h3⟩:=h;refine⟨2*Q+1,?_,?_,parts_bit hz hl h3⟩
  · have e:=parts_next h1;rw[Nat.add_mul,Nat.one_mul];omega
  have:=Nat.mod_lt (a/2^j) (by decide:0<2);omega
theorem PartsOK.low{a b r j:Nat}{zs:List Nat}(h:PartsOK a b zs r (j+1))(hz:Limbs zs):zs.getD (j/32) 0|||2^(j%32)=zs.getD (j/32) 0+2^(j%32)∧zs.getD (j/32) 0+2^(j%32)<4294967296:=by
  obtain⟨Q,_,_,h3⟩:=h;exact or_bit (Nat.mod_lt _ (by decide)) (hz.getD _) (low_limb hz h3)
theorem PartsOK.done{a b r:Nat}{zs:List Nat}(h:PartsOK a b zs r 0):val zs=a/b∧r=a%b:=by
  obtain⟨Q,h1,h2,h3⟩:=h;rw[Nat.pow_zero,Nat.div_one]at h1;rw[Nat.pow_zero,Nat.one_mul]at h3;rw[h3,h1];exact⟨by rw[Nat.add_comm,Nat.add_mul_div_right _ _ (by omega),Nat.div_eq_of_lt h2,Nat.zero_add],by rw[Nat.add_comm,Nat.add_mul_mod_self_right,Nat.mod_eq_of_lt h2]⟩
def XS(v:Nat)(H H1:Heap)(p:Option Addr)(c:Nat):Prop:=
  (v=0∧H1=H)∨(0<v∧∃b,p=some ⟨b,0,none⟩∧H.objs b=none∧(limbs v).length≤c∧c≤maxLen∧H1=H.set b (.box 81 (U .u32 (limbs v++List.replicate (c-(limbs v).length) 0))))
theorem XS.le{v:Nat}{H H1:Heap}{p:Option Addr}{c:Nat}(h:XS v H H1 p c):H.le H1:=by
  rcases h with⟨_,rfl⟩|⟨_,b,_,hb,_,_,rfl⟩
  · exact Heap.le.refl _
  exact Heap.le_set hb _
theorem XS.live{v:Nat}{H H1:Heap}{p:Option Addr}{c:Nat}(h:XS v H H1 p c)(u:Nat):XS v (H.live u) (H1.live u) p c:=by
  rcases h with⟨h,rfl⟩|⟨h,b,h1,hb,h2,h3,rfl⟩
  · exact .inl ⟨h,rfl⟩
  exact .inr ⟨h,b,h1,hb,h2,h3,rfl⟩
theorem up_pow(v n:Nat):4294967296^(n/32)*v*2^(n%32)=v*2^n:=by
  have e2:(4294967296:Nat)^(n/32)*2^(n%32)=2^n:=by
    rw[show(4294967296:Nat)=2^32 by decide,←Nat.pow_mul,←Nat.pow_add,Nat.div_add_mod]
  rw[Nat.mul_comm _ v,Nat.mul_assoc,e2]
theorem up_small{v n i:Nat}(h:v*2^n<BIG)(hi:i<n%32):2*(4294967296^(n/32)*v*2^i)<BIG:=by
  refine Nat.lt_of_le_of_lt ?_ h;rw[←up_pow v n,Nat.mul_comm 2,Nat.mul_assoc _ (2^i),←Nat.pow_succ];exact Nat.mul_le_mul_left _ (Nat.pow_le_pow_right (by decide) hi)
theorem rNat_calls(v:Nat)(hv:v<18446744073709551616)(H:Heap):ACall Tryz.prog 114 [.int .u64 (v:Int)] H (λy H'=>y=bigA v∧H'=H):=by
  refine ACall.of_body Tryz.func114 rfl Tryz.ntmps114 Tryz.results114 rfl ?_;iterate 8 refine AX ?_
  refine .cl rfl Tryz.call196 (evs1 rfl) (rOf_calls _ (by assumption) _) ?_;iterate 5 refine AX ?_
  exact⟨rfl,rfl⟩
def rup_J(xs:List Nat)(tl:Tail)(n:Nat)(H:Heap):Nat→Env→Heap→Prop:=λk env H1=>∃(i:Nat)(zs:List Nat)(tl2:Tail),i≤n%32∧Limbs zs∧zs.length≤20000∧val zs=4294967296^(n/32)*val xs*2^i∧env=[(0,.slice 1 (U .u32 xs) tl),(1,.int .i64 (n:Int)),(5,.slice 1 (U .u32 zs) tl2),(6,.int .i64 (i:Int))]∧H=H1∧k=n%32-i
theorem rUp_calls(xs:List Nat)(tl:Tail)(hx:Limbs xs)(hl:xs.length≤10000)(n:Nat)(hn:n≤100000)(q:Int)(hq:q=(n:Int))(hB:val xs*2^n<BIG)(H:Heap):ACall Tryz.prog 120 [.slice 1 (U .u32 xs) tl,.int .i64 q] H (λy H'=>y=bigA (val xs*2^n)∧H'=H):=by
  subst hq;refine ACall.of_body Tryz.func120 rfl Tryz.ntmps120 Tryz.results120 rfl ?_;iterate 8 refine AX ?_
  refine AM ?_;refine .s rfl (step_makeSliceU (n/32) Tryz.underlying158 Tryz.typeInfo81 Tryz.sizeOf81 Tryz.zeroValue81 (tm rfl) (tm rfl) (by omega) (by omega) (by decide) (by omega)) ?_;rintro _ _ ⟨b9,rfl,hb9,hH⟩;obtain rfl:=hH.symm;iterate 4 refine AX ?_
  refine AWP.frzUF (t:=5) rfl hb9 (by simp) rfl (by simp only[maxLen_eq];omega) ?_;rw[List.take_of_length_le (by simp)];iterate 3 refine AX ?_
  refine .e rfl (step_appendS Tryz.underlying158 Tryz.underlying158 Tryz.sizeOf81 Tryz.typeInfo81 Tryz.zeroValue81 rfl (by decide) (tm rfl) (tm rfl) (by show(_+_)*4≤_;simp only[U_len,List.length_replicate];omega) (by repeat' (first|exact row_int _|exact row_n|exact row_c ⟨rfl,rfl⟩ row_n|exact row_drop (row_int _)|exact row_take (row_int _)|refine row_app ?_ ?_ |exact U_row _ _)) (by repeat' (first|exact row_int _|exact row_n|exact row_c ⟨rfl,rfl⟩ row_n|exact row_drop (row_int _)|exact row_take (row_int _)|refine row_app ?_ ?_ |exact U_row _ _))) ?_;iterate 10 refine AM ?_
  refine AWP.loopW (rup_J xs tl n H) (n%32) ⟨0,List.replicate (n/32) 0++xs,.shared,Nat.zero_le _,(Limbs.rep (by decide)).append hx,by simp;omega,by rw[val_append,val_rep,List.length_replicate];omega,rfl,rfl,rfl⟩ (sub_c rfl (sub_c rfl (sub_e rfl (slice_eq (U_app _ _ _)) (sub_c rfl sub_n)))) (Heap.le.refl _) ?_;rintro _ _ _ ⟨i,zs,tl2,hi,hz,hzl,hv,rfl,rfl,hk⟩;iterate 9 refine AM ?_
  refine AWP.cx rfl (λhc16=>?_) (λhc16=>?_)
  · iterate 6 refine AX ?_
    refine .cl rfl Tryz.call197 (.cons (tm rfl) (.cons ev_bool .nil)) (rTwice_calls zs tl2 hz (by omega) false _) ?_;have hsm:=limbs_256 (up_small hB (show i<n%32 by omega));rw[←hv]at hsm;iterate 10 refine AM ?_
    refine Round.mk (J:=rup_J xs tl n H) ⟨i+1,limbs (2*val zs),.shared,by omega,limbs_Limbs _,by omega,by rw[val_limbs,hv,Nat.pow_succ,Nat.mul_comm 2,Nat.mul_assoc],rfl,rfl,rfl⟩ sX (Heap.le.refl _) (by omega)
  iterate 8 refine AX ?_
  refine .cl rfl Tryz.call195 (evs1 rfl) (rTrim_calls _ _ (by assumption) (by omega) _) ?_;iterate 5 refine AX ?_
  refine⟨?_,rfl⟩;have hi2:i=n%32:=by omega
  rw[hv,hi2,up_pow];rfl
end Go.Proofs.YtojblnldfdeefaaGreatDoor
set_option maxHeartbeats 1000000
namespace Go.Proofs.YtojblnldfdeefaaGreatDoor
open Go Go.RowKit
set_option maxRecDepth 100000
theorem rblen_half{y:Nat}(h:0<y):blen y=blen (y/2)+1:=by
  rcases Nat.lt_or_ge y 2 with q|q
  · have:y=1:=by omega
    subst this;rfl
  have:=blen_shift (n:=y) (k:=1) (m:=y/2) (by omega) rfl;omega
theorem bits_next{a m k:Nat}:a/2^m%2^(k+1)=2*(a/2^(m+1)%2^k)+a/2^m%2:=by
  rw[Nat.pow_succ 2 m,←Nat.div_div_eq_div_mul,Nat.pow_succ 2 k,Nat.mul_comm (2^k),Nat.mod_mul];omega
theorem low_next{v i:Nat}(h:v%2^i=0):v%2^(i+1)=2^i*(v/2^i%2):=by
  rw[Nat.pow_succ,Nat.mod_mul,h,Nat.zero_add]
theorem low_over{v i n:Nat}(h:v%2^i=0)(hn:i=n∨v<2^i)(hin:i≤n):v%2^n=0:=by
  rcases hn with rfl|hn
  · exact h
  rw[Nat.mod_eq_of_lt hn]at h;subst h;exact Nat.zero_mod _
theorem low_hit{v i n:Nat}(hin:i<n)(h:v%2^i=0)(hb:v/2^i%2=1):v%2^n≠0:=by
  intro q;have h1:=low_next h;rw[hb,Nat.mul_one]at h1;have h2:v%2^(i+1)=0:=by
    have:=Nat.mod_mod_of_dvd v (Nat.pow_dvd_pow 2 (show i+1≤n by omega));rw[q]at this;rw[←this];exact Nat.zero_mod _
  have:=Nat.pow_pos (n:=i) (show 0<2 by decide);omega
def rlen_J(v:Nat)(H:Heap):Nat→Env→Heap→Prop:=λk env H1=>∃(i y:Nat),i+blen y=blen ((limbs v).getD ((limbs v).length-1) 0)∧y<4294967296∧env=[(4,.int .i64 (32*(((limbs v).length:Int)-1)+(i:Int))),(5,.int .u32 (y:Int))]∧H=H1∧k=blen y
theorem rLen_calls(xs:List Nat)(tl:Tail)(hx:Limbs xs)(hl:xs.length≤100000)(H:Heap):ACall Tryz.prog 191 [.slice 1 (U .u32 xs) tl] H (λy H'=>y= .int .i64 (blen (val xs):Int)∧H'=H):=by
  have hT:=rTrim_calls xs tl hx (by omega);have hvl:(limbs (val xs)).length≤xs.length:=by rw[←right_len hx];exact right_le xs
  generalize val xs=v at *;have hgt:=Limbs.getD (limbs_Limbs v) ((limbs v).length-1);have hb32:=(blen_le (n:=((limbs v).getD ((limbs v).length-1) 0)) (k:=32)).2 (by rw[show(2:Nat)^32=4294967296 by decide];exact hgt);refine ACall.of_body Tryz.func191 rfl Tryz.ntmps191 Tryz.results191 rfl ?_;iterate 8 refine AX ?_
  refine .cl rfl Tryz.call195 (evs1 rfl) (hT _) ?_;iterate 11 refine AX ?_
  refine AWP.cx rfl (λhc10=>?_) (λhc10=>?_)
  · have hv0:v=0:=by
      rcases Nat.eq_zero_or_pos v with h|h
      · exact h
      rw[limbs_pos h]at hc10;simp only[List.length_cons]at hc10;omega
    iterate 8 refine AX ?_
    refine⟨?_,rfl⟩;subst hv0;rfl
  have hvp:0<v:=by
    rcases Nat.eq_zero_or_pos v with h|h
    · subst h;exact absurd rfl hc10
    exact h
  have hbl:=blen_limbs hvp;have hlp:0<(limbs v).length:=by rw[limbs_pos hvp];simp
  iterate 17 refine AX ?_
  refine .p rfl (pure_indexU ((limbs v).length-1) Tryz.underlying158 Tryz.sizeOf81 (tm rfl) (tm rfl) (by omega) (by omega)) ?_;iterate 6 refine AX ?_
  refine AWP.loopW (rlen_J v H) (blen ((limbs v).getD ((limbs v).length-1) 0)) ⟨0,((limbs v).getD ((limbs v).length-1) 0),by omega,hgt,rfl,rfl,rfl⟩ (sub_e rfl (by congr 1;try omega) (sub_c rfl sub_n)) (Heap.le.refl _) ?_;rintro _ _ _ ⟨i,y,hi,hy,rfl,rfl,rfl⟩;iterate 7 refine AM ?_
  refine AWP.cx rfl (λhc22=>?_) (λhc22=>?_)
  · iterate 12 refine AX ?_
    refine .p rfl (pure_quo32 (tm rfl) (ev_nat 2) (by assumption) (by omega)) ?_;iterate 4 refine AX ?_
    have hbh:=rblen_half (y:=y) (by omega);refine Round.mk (J:=rlen_J v H) ⟨i+1,y/2,by omega,by omega,rfl,rfl,rfl⟩ (sub_e rfl (by congr 1;try omega) (sub_c rfl sub_n)) (Heap.le.refl _) (by omega)
  have hy0:y=0:=by omega
  subst hy0;rw[blen_zero]at hi;iterate 13 refine AX ?_
  refine⟨?_,rfl⟩;show AV.int .i64 _=AV.int .i64 _;congr 1;omega
def from_J(xs:List Nat)(tl:Tail)(n:Nat)(q:Int)(H:Heap):Nat→Env→Heap→Prop:=λk env H1=>∃c:Nat,c≤64∧env=[(0,.slice 1 (U .u32 xs) tl),(1,.int .i64 q),(5,.int .u64 ((val xs/2^(n+c)%2^(64-c):Nat):Int)),(6,.int .i64 ((c:Int)-1))]∧H=H1∧c=k
theorem rfrom_calls(xs:List Nat)(tl:Tail)(hx:Limbs xs)(hl:xs.length≤100000)(n:Nat)(hn:n≤100000000)(q:Int)(hq:q=(n:Int))(H:Heap):ACall Tryz.prog 192 [.slice 1 (U .u32 xs) tl,.int .i64 q] H (λy H'=>y= .int .u64 ((val xs/2^n%18446744073709551616:Nat):Int)∧H'=H):=by
  subst hq;refine ACall.of_body Tryz.func192 rfl Tryz.ntmps192 Tryz.results192 rfl ?_;iterate 13 refine AM ?_
  iterate 4 refine AX ?_
  refine AWP.loopW (from_J xs tl n (n:Int) H) (64) ⟨64,Nat.le_refl _,rfl,rfl,rfl⟩ (sub_c rfl (sub_c rfl (sub_e rfl (by simp[Nat.mod_one]) (sub_c rfl sub_n)))) (Heap.le.refl _) ?_;rintro _ _ _ ⟨c,hc,rfl,rfl,rfl⟩;iterate 7 refine AX ?_
  refine AWP.cx rfl (λhc8=>?_) (λhc8=>?_)
  · have hbn:val xs/2^(n+(c-1))%2^(64-(c-1))=2*(val xs/2^(n+c)%2^(64-c))+val xs/2^(n+(c-1))%2:=by
      have:=@bits_next (val xs) (n+(c-1)) (64-c);rw[show 64-c+1=64-(c-1) by omega,show n+(c-1)+1=n+c by omega]at this;exact this
    have hlt:val xs/2^(n+c)%2^(64-c)<9223372036854775808:=Nat.lt_of_lt_of_le (Nat.mod_lt _ (Nat.pow_pos (by decide))) (Nat.le_trans (Nat.pow_le_pow_right (by decide) (show 64-c≤63 by omega)) (by decide));iterate 7 refine AX ?_
    refine .p rfl (pure_mulX64 (ev_nat 2) (tm rfl) (by omega)) ?_;iterate 9 refine AX ?_
    refine .cl rfl Tryz.call193 (evs2 rfl rfl) (rBit_calls xs tl hx (by omega) (n+(c-1)) (by omega) _ (by omega) _) ?_;iterate 2 refine AX ?_
    refine AWP.cx rfl (λhc17=>?_) (λhc17=>?_)
    · iterate 9 refine AM ?_
      iterate 4 refine AX ?_
      refine Round.mk (J:=from_J xs tl n (n:Int) H) ⟨c-1,by omega,rfl,rfl,rfl⟩ (sub_c rfl (sub_c rfl (sub_e rfl (congrArg (λw:Nat=>AV.int .u64 (w:Int)) (show _=val xs/2^(n+(c-1))%2^(64-(c-1)) by omega)) (sub_e rfl (by congr 1;omega) sub_n)))) (Heap.le.refl _) (by omega)
    iterate 9 refine AX ?_
    refine Round.mk (J:=from_J xs tl n (n:Int) H) ⟨c-1,by omega,rfl,rfl,rfl⟩ (sub_c rfl (sub_c rfl (sub_e rfl (congrArg (λw:Nat=>AV.int .u64 (w:Int)) (show _=val xs/2^(n+(c-1))%2^(64-(c-1)) by omega)) (sub_e rfl (by congr 1;omega) sub_n)))) (Heap.le.refl _) (by omega)
  have hc0:c=0:=by omega
  subst hc0;iterate 13 refine AX ?_
  refine⟨?_,rfl⟩;rw[Nat.add_zero,Nat.sub_zero,show(2:Nat)^64=18446744073709551616 by decide];rfl
def low_J(xs:List Nat)(tl:Tail)(n:Nat)(H:Heap):Nat→Env→Heap→Prop:=λk env H1=>∃i:Nat,i≤n∧val xs%2^i=0∧env=[(0,.slice 1 (U .u32 xs) tl),(1,.int .i64 (n:Int)),(5,.int .i64 (i:Int))]∧H=H1∧k=n-i
theorem rlow_calls(xs:List Nat)(tl:Tail)(hx:Limbs xs)(hl:xs.length≤100000)(n:Nat)(_:n≤100000000)(q:Int)(hq:q=(n:Int))(H:Heap):ACall Tryz.prog 194 [.slice 1 (U .u32 xs) tl,.int .i64 q] H (λy H'=>y= .bool (decide (val xs%2^n≠0))∧H'=H):=by
  subst hq;refine ACall.of_body Tryz.func194 rfl Tryz.ntmps194 Tryz.results194 rfl ?_;iterate 12 refine AX ?_
  refine AWP.loopW (low_J xs tl n H) (n) ⟨0,Nat.zero_le _,by simp[Nat.mod_one],rfl,rfl,rfl⟩ sX (Heap.le.refl _) ?_;rintro _ _ _ ⟨i,hi,hl0,rfl,rfl,rfl⟩;refine AX ?_;refine AWP.seqTo 15 (.bool (decide ((i:Int)<(n:Int))&&decide ((i:Int)<32*(xs.length:Int)))) [0,1,5] ?_ ?_
  · iterate 5 refine AX ?_
    refine bool_casesL (t:=9) rfl (λhg9=>?_) (λhg9=>?_)
    · iterate 7 refine AX ?_
      exact⟨rfl,sub_b rfl (by(rw[show decide ((i:Int)<(n:Int))=_ from hg9];rfl)) sX,rfl⟩
    iterate 7 refine AX ?_
    exact⟨rfl,sub_b rfl (by(rw[show decide ((i:Int)<(n:Int))=_ from hg9];rfl)) sX,rfl⟩
  refine AWP.sub [(15,_),(0,_),(1,_),(5,_)] sX ?_;refine AWP.cx rfl (λhc15=>?_) (λhc15=>?_)
  · simp only[Bool.and_eq_true,decide_eq_true_eq]at hc15;iterate 8 refine AX ?_
    refine .cl rfl Tryz.call193 (evs2 rfl rfl) (rBit_calls xs tl hx (by omega) i (by omega) _ rfl _) ?_;iterate 2 refine AX ?_
    refine AWP.cx rfl (λhc20=>?_) (λhc20=>?_)
    · iterate 12 refine AX ?_
      refine⟨?_,rfl⟩;rw[decide_eq_true (low_hit (by omega) hl0 (by omega))];rfl
    iterate 9 refine AX ?_
    refine Round.mk (J:=low_J xs tl n H) ⟨i+1,by omega,by rw[low_next hl0,show val xs/2^i%2=0 by omega,Nat.mul_zero],rfl,rfl,rfl⟩ sX (Heap.le.refl _) (by omega)
  simp only[Bool.and_eq_false_iff,decide_eq_false_iff_not]at hc15;have hvl:=val_lt hx;rw[show(4294967296:Nat)=2^32 by decide,←Nat.pow_mul]at hvl;have hov:val xs%2^n=0:=low_over hl0 (by rcases hc15 with h|h;exact .inl (by omega);exact .inr (Nat.lt_of_lt_of_le hvl (Nat.pow_le_pow_right (by decide) (by omega)))) hi;iterate 12 refine AX ?_
  refine⟨?_,rfl⟩;rw[decide_eq_false (by rw[hov];simp)];rfl
theorem blen_row{xs:List Nat}(hx:Limbs xs):blen (val xs)≤32*xs.length:=blen_le.2 (by have:=val_lt hx;rw[show(4294967296:Nat)=2^32 by decide,←Nat.pow_mul]at this;exact this)
theorem mant_ref{v:Nat}{e:Int}{more:Bool}(h:e<unitN v e):mantN v e more=if(decide (((v/2^(((unitN v e-e).toNat)-1)%2:Nat):Int)=1)&&((decide (v%2^(((unitN v e-e).toNat)-1)≠0)||more)||decide (((v/2^((unitN v e-e).toNat)%2:Nat):Int)=((1:Nat):Int))))=true then v/2^((unitN v e-e).toNat)+1 else v/2^((unitN v e-e).toNat):=by
  rw[mant_up h];simp only[Bool.and_eq_true,Bool.or_eq_true,decide_eq_true_eq,or_assoc];congr 1;refine propext ⟨λq=>⟨by omega,q.2.imp_right (Or.imp_right (λw=>by omega))⟩,λq=>⟨by omega,q.2.imp_right (Or.imp_right (λw=>by omega))⟩⟩
theorem rRound_calls(neg:Bool)(xs:List Nat)(tl:Tail)(hx:Limbs xs)(hl:xs.length≤10000)(e:Int)(he: -10000≤e∧e≤1000000)(more:Bool)(H:Heap):ACall Tryz.prog 110 [.bool neg,.slice 1 (U .u32 xs) tl,.int .i64 e,.bool more] H (λy H'=>y= .int .u64 ((roundN neg (val xs) e more:Nat):Int)∧H'=H):=by
  have hbl:blen (val xs)≤320000:=by have:=blen_row hx;omega
  have hb0:=@blen0 (val xs);have hun:unitN (val xs) e=if e+blen (val xs)-53< -1074 then-1074 else e+blen (val xs)-53:=rfl
  have hul:=unit_low (val xs) e;have hur:unitN (val xs) e≤2000000:=by rw[hun];split<;>omega
  have hml:=mant_le (val xs) e more;have hsg:signN neg≤9223372036854775808:=by unfold signN;split<;>omega
  refine ACall.of_body Tryz.func110 rfl Tryz.ntmps110 Tryz.results110 rfl ?_;iterate 10 refine AM ?_
  refine AWP.seqToL [(9,.int .u64 ((signN neg:Nat):Int))] [1,2,3,8] ?_ ?_
  · iterate 5 refine AX ?_
    refine AWP.cx rfl (λhc16=>?_) (λhc16=>?_)
    · iterate 3 refine AM ?_
      exact⟨rfl,(sub_e rfl (by(unfold signN;rw[if_pos (by assumption)];done)) sX),rfl⟩
    refine AX ?_;exact⟨rfl,(sub_e rfl (by(unfold signN;rw[if_neg (by simp_all)];done)) sX),rfl⟩
  refine AWP.sub [(9,_),(1,_),(2,_),(3,_),(8,_)] sX ?_;iterate 3 refine AX ?_
  refine .cl rfl Tryz.call191 (evs1 rfl) (rLen_calls xs tl hx (by omega) _) ?_;iterate 4 refine AX ?_
  refine AWP.seqTo 30 (.bool (decide (val xs=0))) [9,1,2,3,8,10] ?_ ?_
  · iterate 4 refine AX ?_
    refine bool_casesL (t:=21) rfl (λhg21=>?_) (λhg21=>?_)
    · have hh21:=hg21;try simp only[decide_eq_true_eq]at hh21
      iterate 10 refine AX ?_
      exact⟨rfl,sub_b rfl (by(simp_all;done)) sX,rfl⟩
    have hh21:=hg21;try simp only[decide_eq_false_iff_not]at hh21
    iterate 3 refine AX ?_
    refine bool_casesL (t:=24) rfl (λhg24=>?_) (λhg24=>?_)
    · have hh24:=hg24;try simp only[decide_eq_true_eq]at hh24
      iterate 7 refine AX ?_
      exact⟨rfl,sub_b rfl (by(simp_all;omega)) sX,rfl⟩
    have hh24:=hg24;try simp only[decide_eq_false_iff_not,Int.not_lt]at hh24
    iterate 7 refine AX ?_
    exact⟨rfl,sub_b rfl (by(simp_all;done)) sX,rfl⟩
  refine AWP.sub [(30,_),(9,_),(1,_),(2,_),(3,_),(8,_),(10,_)] sX ?_;refine AWP.cx rfl (λhc30=>?_) (λhc30=>?_)
  · have hv0:val xs=0:=by simpa using hc30
    iterate 9 refine AX ?_
    refine⟨?_,rfl⟩;unfold roundN;rw[if_pos (.inl hv0)];rfl
  have hv0:0<val xs:=Nat.pos_of_ne_zero (by simpa using hc30);have hbp:0<blen (val xs):=by omega
  iterate 9 refine AX ?_
  refine AWP.cx rfl (λhc33=>?_) (λhc33=>?_)
  · iterate 10 refine AM ?_
    refine⟨?_,rfl⟩;unfold roundN;rw[if_neg (by omega),if_pos (by omega)];rfl
  iterate 11 refine AX ?_
  refine AWP.seqToL [(11,.int .i64 (unitN (val xs) e))] [9,1,2,3,8] ?_ ?_
  · iterate 6 refine AX ?_
    refine AWP.cx rfl (λhc41=>?_) (λhc41=>?_)
    · iterate 3 refine AX ?_
      exact⟨rfl,(sub_e rfl (by(rw[hun,if_pos (by omega)];done)) sX),rfl⟩
    refine AX ?_;exact⟨rfl,(sub_e rfl (by(rw[hun,if_neg (by omega)];done)) sX),rfl⟩
  refine AWP.sub [(11,_),(9,_),(1,_),(2,_),(3,_),(8,_)] sX ?_;iterate 5 refine AM ?_
  refine AWP.seqToL [(12,.int .u64 ((mantN (val xs) e more:Nat):Int))] [11,9,8] ?_ ?_
  · iterate 7 refine AX ?_
    refine AWP.cx rfl (λhc44=>?_) (λhc44=>?_)
    · have hfs:val xs*2^(e-unitN (val xs) e).toNat<18446744073709551616:=fup_small hc44;have hms:=mant_same (more:=more) hc44;have hur2:=up_room hv0 hc44;iterate 5 refine AX ?_
      refine .cl rfl Tryz.call120 (evs2 rfl rfl) (rUp_calls xs tl hx hl (e-unitN (val xs) e).toNat (by omega) _ (by omega) (Nat.lt_trans hfs (by decide+kernel)) _) ?_;refine .cl rfl Tryz.call192 (.cons (tm rfl) (.cons ev_int .nil)) (rfrom_calls (limbs (val xs*2^(e-unitN (val xs) e).toNat)) .shared (limbs_Limbs _) (Nat.le_trans (limbs_256 (Nat.lt_trans hfs (by decide+kernel))) (by decide)) 0 (by decide) _ rfl _) ?_;rw[val_limbs,Nat.pow_zero,Nat.div_one,Nat.mod_eq_of_lt hfs];iterate 2 refine AX ?_
      exact⟨rfl,(sub_e rfl (by rw[hms]) sX),rfl⟩
    have hms:=mant_ref (more:=more) hc44;have hds:val xs/2^((unitN (val xs) e-e).toNat)<18446744073709551616:=by
      have:=down_small hc44;rw[←div_half (by omega)];omega
    iterate 12 refine AX ?_
    refine .cl rfl Tryz.call192 (evs2 rfl rfl) (rfrom_calls xs tl hx (by omega) ((unitN (val xs) e-e).toNat) (by omega) _ (by omega) _) ?_;rw[Nat.mod_eq_of_lt hds];iterate 8 refine AX ?_
    refine .cl rfl Tryz.call193 (evs2 rfl rfl) (rBit_calls xs tl hx (by omega) (((unitN (val xs) e-e).toNat)-1) (by omega) _ (by omega) _) ?_;iterate 3 refine AX ?_
    refine AWP.seqTo 15 (.bool (decide (val xs%2^(((unitN (val xs) e-e).toNat)-1)≠0)||more)) [11,9,8,12,14] ?_ ?_
    · iterate 4 refine AX ?_
      refine .cl rfl Tryz.call194 (evs2 rfl rfl) (rlow_calls xs tl hx (by omega) (((unitN (val xs) e-e).toNat)-1) (by omega) _ (by omega) _) ?_;refine AX ?_;refine bool_casesL (t:=65) rfl (λhg65=>?_) (λhg65=>?_)
      · have hh65:=hg65;try simp only[decide_eq_true_eq,ne_eq]at hh65
        iterate 4 refine AX ?_
        exact⟨rfl,sub_b rfl (by(simp_all;done)) sX,rfl⟩
      have hh65:=hg65;try simp only[decide_eq_false_iff_not,ne_eq,Decidable.not_not]at hh65
      iterate 4 refine AX ?_
      exact⟨rfl,sub_b rfl (by(simp_all;done)) sX,rfl⟩
    refine AWP.sub [(15,_),(11,_),(9,_),(8,_),(12,_),(14,_)] sX ?_;refine AWP.seqTo 76 (.bool ((decide (((val xs/2^(((unitN (val xs) e-e).toNat)-1)%2:Nat):Int)=1)&&((decide (val xs%2^(((unitN (val xs) e-e).toNat)-1)≠0)||more)||decide (((val xs/2^((unitN (val xs) e-e).toNat)%2:Nat):Int)=((1:Nat):Int)))))) [11,9,8,12] ?_ ?_
    · iterate 3 refine AX ?_
      refine bool_casesL (t:=69) rfl (λhg69=>?_) (λhg69=>?_)
      · have hh69:=hg69;try simp only[decide_eq_true_eq]at hh69
        iterate 2 refine AX ?_
        refine bool_casesL (t:=71) rfl (λhg71=>?_) (λhg71=>?_)
        · have hh71:=hg71;try simp only[ne_eq]at hh71
          iterate 6 refine AX ?_
          exact⟨rfl,sub_b rfl (by(simp_all;done)) sX,rfl⟩
        have hh71:=hg71;try simp only[ne_eq]at hh71
        iterate 6 refine AM ?_
        exact⟨rfl,sub_b rfl (by(simp_all;done)) sX,rfl⟩
      have hh69:=hg69;try simp only[decide_eq_false_iff_not]at hh69
      iterate 8 refine AX ?_
      exact⟨rfl,sub_b rfl (by(simp_all;done)) sX,rfl⟩
    refine AWP.sub [(76,_),(11,_),(9,_),(8,_),(12,_)] sX ?_;refine AWP.cx rfl (λhc76=>?_) (λhc76=>?_)
    · rw[if_pos hc76]at hms;iterate 5 refine AM ?_
      exact⟨rfl,(sub_e rfl (by rw[hms]) sX),rfl⟩
    rw[if_neg (by rw[hc76];decide)]at hms;refine AX ?_;exact⟨rfl,(sub_e rfl (by rw[hms]) sX),rfl⟩
  refine AWP.sub [(12,_),(11,_),(9,_),(8,_)] sX ?_;refine AWP.seqToL [(12,.int .u64 ((packA (mantN (val xs) e more):Nat):Int)),(11,.int .i64 (packU (mantN (val xs) e more) (unitN (val xs) e)))] [9,8] ?_ ?_
  · iterate 6 refine AM ?_
    refine AWP.cx rfl (λhc80=>?_) (λhc80=>?_)
    · iterate 7 refine AM ?_
      iterate 3 refine AX ?_
      exact⟨rfl,(sub_e rfl (by(unfold packA;rw[if_pos (by omega)];done)) (sub_e rfl (by(unfold packU;rw[if_pos (by omega)];done)) sX)),rfl⟩
    refine AX ?_;exact⟨rfl,(sub_e rfl (by(unfold packA;rw[if_neg (by omega)];done)) (sub_e rfl (by(unfold packU;rw[if_neg (by omega)];done)) sX)),rfl⟩
  refine AWP.sub [(12,_),(11,_),(9,_),(8,_)] sX ?_;have hR:roundN neg (val xs) e more=signN neg+packM (packA (mantN (val xs) e more)) (packU (mantN (val xs) e more) (unitN (val xs) e)):=by
    unfold roundN;rw[if_neg (by omega),if_neg (by omega),packN_eq]
  have hA:=packA_lt hml;have hU:=packU_le (mantN (val xs) e more) (unitN (val xs) e);generalize packA (mantN (val xs) e more)=m1 at hA hR ⊢;generalize packU (mantN (val xs) e more) (unitN (val xs) e)=u1 at hU hR ⊢;iterate 7 refine AM ?_
  refine AWP.cx rfl (λhc84=>?_) (λhc84=>?_)
  · iterate 11 refine AX ?_
    refine⟨?_,rfl⟩;rw[hR];unfold packM;rw[if_pos (by omega)];rfl
  iterate 10 refine AX ?_
  refine AWP.cx rfl (λhc90=>?_) (λhc90=>?_)
  · iterate 10 refine AM ?_
    refine⟨?_,rfl⟩;rw[hR];unfold packM;rw[if_neg (by omega),if_pos (by omega)];rfl
  iterate 7 refine AX ?_
  refine .p rfl (.as (b:=.int .u64 (((u1+1075).toNat:Nat):Int)) (by congr 1;omega) (pure_convX Tryz.underlying3 Tryz.underlying25 (tm rfl) (wrap64 (by omega) (by omega)))) ?_;refine .p rfl (pure_shlX64 (tm rfl) (ev_nat 52) (by omega) (by rw[shl52 (by omega)];omega)) ?_;refine .p rfl (pure_addX64 (tm rfl) (tm rfl) (by(rw[shl52 (by omega)];omega))) ?_;refine AX ?_;refine .p rfl (pure_addX64 (tm rfl) (tm rfl) (by(rw[shl52 (by omega)];omega))) ?_;refine .p rfl (pure_subX64 (tm rfl) (ev_nat 4503599627370496) (by(rw[shl52 (by omega)];omega)) (by(rw[shl52 (by omega)];omega))) ?_;iterate 5 refine AX ?_
  refine⟨?_,rfl⟩;rw[hR];unfold packM;rw[if_neg (by omega),if_neg (by omega)];exact congrArg (λw:Nat=>AV.int .u64 (w:Int)) (show signN neg+(u1+1075).toNat*2^52+m1-4503599627370496=signN neg+(m1+(u1+1074).toNat*4503599627370496) by rw[shl52 (by omega)];omega)
/-! ### short decimals -/
end Go.Proofs.YtojblnldfdeefaaGreatDoor
