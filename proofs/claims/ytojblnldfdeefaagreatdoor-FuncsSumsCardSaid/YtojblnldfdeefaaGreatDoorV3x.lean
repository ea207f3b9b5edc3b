/-
  Comparisons of numbers, whole numbers.
-/
import Derived.Test.YtojblnldfdeefaaGreatDoorV2x
namespace Go.Proofs.YtojblnldfdeefaaGreatDoor
open Go Go.RowKit
set_option maxRecDepth 100000
theorem zr183:ZR 183 [.bool false,.bool false,.bool false,.int .u64 0]:=ZRi Tryz.zeroValue183
theorem pl183:PL 183 [(0,1),(1,1),(2,1),(3,1)]:=PLi Tryz.underlying183 ⟨rfl,Tryz.sizeOf4,rfl,Tryz.sizeOf4,rfl,Tryz.sizeOf4,rfl,Tryz.sizeOf25,True.intro⟩
def spA(neg half rest:Bool)(n:Nat):AV:=.agg [.bool neg,.bool half,.bool rest,.int .u64 (n:Int)]
def ofHalf(a:Nat):Bool:=decide (partE a<0∧partM a/2^((-partE a).toNat-1)%2=1)
def ofRest(a:Nat):Bool:=decide (partE a<0∧partM a%2^((-partE a).toNat-1)≠0)
def ofWhole(a:Nat):Nat:=if partE a<0 then partM a/2^(-partE a).toNat else partM a
theorem of_big{a:Nat}(h:¬partE a<0):ofHalf a=false∧ofRest a=false∧ofWhole a=partM a:=⟨decide_eq_false (by omega),decide_eq_false (by omega),if_neg h⟩
theorem of_small{a k:Nat}(h:partE a<0)(hk:k=(-partE a).toNat-1):decide (((partM a/2^k&&&1:Nat):Int)=((1:Nat):Int))=ofHalf a∧decide (partM a%2^k≠0)=ofRest a∧partM a/2^k/2^1=ofWhole a:=by
  subst hk;refine⟨decide_eq_decide.2 ?_,decide_eq_decide.2 ?_,?_⟩
  · rw[Nat.and_one_is_mod];omega
  · constructor
    · exact λq=>⟨h,q⟩
    exact λq=>q.2
  unfold ofWhole;rw[if_pos h,Nat.pow_one,half_down (by omega)]
def toM(x:Nat):Nat:=if partE x<0 then partM x/2^(-partE x).toNat else partM x*2^(partE x).toNat
theorem toN_big{x:Nat}(h:3≤kindN x):toN x=(0,11):=if_pos h
theorem toN_eq{x:Nat}(h:¬3≤kindN x):toN x=if 0≤partE x∧11<partE x then(0,6)
    else if negB x=true then(if toM x≤9223372036854775808 then(-(toM x:Int),0)else(0,6))else(if toM x<9223372036854775808 then((toM x:Int),0)else(0,6)):=if_neg h
theorem shl_11{m:Nat}{e:Int}(hm:m<9007199254740992)(h:e≤11):m*2^e.toNat<18446744073709551616:=by
  have h1:2^e.toNat≤2^11:=Nat.pow_le_pow_right (by decide) (by omega);have h2:m*2^e.toNat≤9007199254740991*2^11:=Nat.mul_le_mul (by omega) h1;exact Nat.lt_of_le_of_lt h2 (by decide)
theorem neg_back{n:Nat}(h:n≤9223372036854775808):IntKind.i64.wrap (IntKind.u64.wrap (0-(n:Int)))= -(n:Int):=by
  simp only[IntKind.wrap,IntKind.bits,IntKind.signed];simp;split<;>omega
theorem abs_63(x:Nat):absN x<9223372036854775808:=by
  unfold absN nanN;split<;>omega
theorem order_neg{x:Nat}(h:9223372036854775808≤x):orderN x= -((absN x:Nat):Int):=if_pos h
theorem order_pos{x:Nat}(h:¬9223372036854775808≤x):orderN x=(x:Int):=if_neg h
theorem order_calls(a:Nat)(ha:a<18446744073709551616)(H:Heap):ACall Tryz.prog 213 [.int .u64 (a:Int)] H (λy H'=>y= .int .i64 (orderN a)∧H'=H):=by
  have hab:=abs_63 a;have h63:(2:Nat)^63=9223372036854775808:=by decide
  refine ACall.of_body Tryz.func213 rfl Tryz.ntmps213 Tryz.results213 rfl ?_;refine .sr ?_;refine .p rfl (pure_assign ev_int) ?_;refine .ng ?_;refine .seq ?_;refine .sr ?_;refine .mv rfl rfl ?_;refine .p rfl (pure_shr64 (tm rfl) (ev_nat 63) (by assumption)) ?_;refine .p rfl (pure_eql (tm rfl) (ev_nat 1)) ?_;refine .ng ?_;refine AWP.cond (tm rfl) (λhc5=>?_) (λhc5=>?_)
  · try simp only[decide_eq_true_eq]at hc5
    refine .sr ?_;refine .mv rfl rfl ?_;refine .cl rfl Tryz.call78 (evs1 rfl) (fAbs_calls _ (by assumption) _) ?_;refine .p rfl (pure_convX Tryz.underlying25 Tryz.underlying3 (tm rfl) (wrapI64 (by omega) (by omega))) ?_;refine .p rfl (pure_neg (tm rfl) (by omega)) ?_;refine .as rfl rfl ?_;refine .ng ?_;refine .ret ?_;refine Next.rt ?_;refine Ret.go (.cons (.tmp _ _ rfl) .nil) _ (Heap.le.refl _) ?_;refine⟨?_,rfl⟩;rw[h63]at hc5;rw[order_neg (by omega)];rfl
  try simp only[decide_eq_false_iff_not]at hc5
  refine .skip ?_;refine Next.go ?_;refine .sr ?_;refine .mv rfl rfl ?_;refine .p rfl (pure_convX Tryz.underlying25 Tryz.underlying3 (tm rfl) (wrapI64 (by omega) (by rw[h63]at hc5;omega))) ?_;refine .as rfl rfl ?_;refine .ng ?_;refine .ret ?_;refine Ret.go (.cons (.tmp _ _ rfl) .nil) _ (Heap.le.refl _) ?_;refine⟨?_,rfl⟩;rw[h63]at hc5;rw[order_pos (by omega)];rfl
theorem fCmp_calls(a b:Nat)(ha:a<18446744073709551616)(hb:b<18446744073709551616)(H:Heap):ACall Tryz.prog 141 [.int .u64 (a:Int),.int .u64 (b:Int)] H (λy H'=>y= .tuple [.int .i64 (fcmpN a b),.bool (!decide (kindN a=4∨kindN b=4))]∧H'=H):=by
  refine ACall.of_body Tryz.func141 rfl Tryz.ntmps141 Tryz.results141 rfl ?_;refine .sr ?_;refine .p rfl (pure_assign ev_int) ?_;refine .p rfl (pure_assign ev_bool) ?_;refine .ng ?_;refine .seq ?_;refine AWP.seqTo 15 (.bool (decide (kindN a=4∨kindN b=4))) [0,1,4,5] ?_ ?_
  · refine .region ?_;refine .mv rfl rfl ?_;refine .cl rfl Tryz.call92 (evs1 rfl) (Kind_calls _ (by assumption) _) ?_;refine .p rfl (pure_eql (tm rfl) ev_int) ?_;refine .mv rfl rfl ?_;refine bool_casesL (t:=11) rfl (λhg11=>?_) (λhg11=>?_)
    · have hh11:=hg11;try simp only[decide_eq_true_eq]at hh11
      refine .gn rfl rfl rfl (by assumption) ?_;refine .gn rfl rfl rfl (by assumption) ?_;refine .gn rfl rfl rfl (by assumption) ?_;refine .p rfl (pure_pickT (tm rfl) (by assumption) ev_bool) ?_;refine .nil ?_;exact⟨rfl,sub_b rfl (by(refine Eq.symm ?_;first|exact decide_eq_true (by omega)|exact decide_eq_false (by omega)|exact decide_eq_decide.2 (by omega))) (sub_c rfl (sub_c rfl (sub_c rfl (sub_c rfl sub_n)))),rfl⟩
    have hh11:=hg11;try simp only[decide_eq_false_iff_not]at hh11
    refine .gp rfl rfl rfl (by assumption) (pure_move (tm rfl)) ?_;refine .gs rfl rfl rfl (by assumption) (step_call0 Tryz.call92 (evs1 rfl) (Kind_calls _ (by assumption) _)) ?_;rintro _ _ ⟨rfl,hH⟩;obtain rfl:=hH.symm;refine .gp rfl rfl rfl (by assumption) (pure_eql (tm rfl) ev_int) ?_;refine .p rfl (pure_pickF (tm rfl) (by assumption) (tm rfl)) ?_;refine .nil ?_;exact⟨rfl,sub_b rfl (by(refine Eq.symm ?_;first|exact decide_eq_true (by omega)|exact decide_eq_false (by omega)|exact decide_eq_decide.2 (by omega))) (sub_c rfl (sub_c rfl (sub_c rfl (sub_c rfl sub_n)))),rfl⟩
  refine AWP.sub [(15,_),(0,_),(1,_),(4,_),(5,_)] (sub_c rfl (sub_c rfl (sub_c rfl (sub_c rfl (sub_c rfl sub_n))))) ?_;refine AWP.cond (tm rfl) (λhc15=>?_) (λhc15=>?_)
  · try simp only[decide_eq_true_eq]at hc15
    refine .sr ?_;refine .p rfl (pure_assign ev_int) ?_;refine .p rfl (pure_assign ev_bool) ?_;refine .ng ?_;refine .ret ?_;refine Next.rt ?_;refine Ret.go (.cons (.tmp _ _ rfl) (.cons (.tmp _ _ rfl) .nil)) _ (Heap.le.refl _) ?_;refine⟨?_,rfl⟩;unfold fcmpN;first
    |(rw[if_pos hc15,decide_eq_true hc15];rfl)
    |(rw[if_neg hc15,decide_eq_false hc15,if_pos hc20];rfl)
    |(rw[if_neg hc15,decide_eq_false hc15,if_neg (by omega),if_pos (by omega)];rfl)
    |(rw[if_neg hc15,decide_eq_false hc15,if_neg (by omega),if_neg (by omega)];rfl)
  try simp only[decide_eq_false_iff_not]at hc15
  refine .skip ?_;refine Next.go ?_;refine .seq ?_;refine .sr ?_;refine .mv rfl rfl ?_;refine .cl rfl Tryz.call213 (evs1 rfl) (order_calls _ (by assumption) _) ?_;refine .mv rfl rfl ?_;refine .cl rfl Tryz.call213 (evs1 rfl) (order_calls _ (by assumption) _) ?_;refine .as rfl rfl ?_;refine .as rfl rfl ?_;refine .ng ?_;refine .block ?_;refine .sr ?_;refine .mv rfl rfl ?_;refine .mv rfl rfl ?_;refine .p rfl (pure_lss (tm rfl) (tm rfl)) ?_;refine .as rfl rfl ?_;refine .ng ?_;refine AWP.cond (tm rfl) (λhc20=>?_) (λhc20=>?_)
  · try simp only[decide_eq_true_eq]at hc20
    refine .sr ?_;refine .p rfl (pure_assign ev_int) ?_;refine .p rfl (pure_assign ev_bool) ?_;refine .ng ?_;refine .ret ?_;refine Block.rt ?_;refine Next.rt ?_;refine Ret.go (.cons (.tmp _ _ rfl) (.cons (.tmp _ _ rfl) .nil)) _ (Heap.le.refl _) ?_;refine⟨?_,rfl⟩;unfold fcmpN;first
    |(rw[if_pos hc15,decide_eq_true hc15];rfl)
    |(rw[if_neg hc15,decide_eq_false hc15,if_pos hc20];rfl)
    |(rw[if_neg hc15,decide_eq_false hc15,if_neg (by omega),if_pos (by omega)];rfl)
    |(rw[if_neg hc15,decide_eq_false hc15,if_neg (by omega),if_neg (by omega)];rfl)
  try simp only[decide_eq_false_iff_not,Int.not_lt]at hc20
  refine .sr ?_;refine .mv rfl rfl ?_;refine .mv rfl rfl ?_;refine .p rfl (pure_gtr (tm rfl) (tm rfl)) ?_;refine .as rfl rfl ?_;refine .ng ?_;refine AWP.cond (tm rfl) (λhc24=>?_) (λhc24=>?_)
  · try simp only[decide_eq_true_eq]at hc24
    refine .sr ?_;refine .p rfl (pure_assign ev_int) ?_;refine .p rfl (pure_assign ev_bool) ?_;refine .ng ?_;refine .ret ?_;refine Block.rt ?_;refine Next.rt ?_;refine Ret.go (.cons (.tmp _ _ rfl) (.cons (.tmp _ _ rfl) .nil)) _ (Heap.le.refl _) ?_;refine⟨?_,rfl⟩;unfold fcmpN;first
    |(rw[if_pos hc15,decide_eq_true hc15];rfl)
    |(rw[if_neg hc15,decide_eq_false hc15,if_pos hc20];rfl)
    |(rw[if_neg hc15,decide_eq_false hc15,if_neg (by omega),if_pos (by omega)];rfl)
    |(rw[if_neg hc15,decide_eq_false hc15,if_neg (by omega),if_neg (by omega)];rfl)
  try simp only[decide_eq_false_iff_not,Int.not_lt]at hc24
  refine .skip ?_;refine Block.go ?_;refine Next.go ?_;refine .sr ?_;refine .p rfl (pure_assign ev_int) ?_;refine .p rfl (pure_assign ev_bool) ?_;refine .ng ?_;refine .ret ?_;refine Ret.go (.cons (.tmp _ _ rfl) (.cons (.tmp _ _ rfl) .nil)) _ (Heap.le.refl _) ?_;refine⟨?_,rfl⟩;unfold fcmpN;first
  |(rw[if_pos hc15,decide_eq_true hc15];rfl)
  |(rw[if_neg hc15,decide_eq_false hc15,if_pos hc20];rfl)
  |(rw[if_neg hc15,decide_eq_false hc15,if_neg (by omega),if_pos (by omega)];rfl)
  |(rw[if_neg hc15,decide_eq_false hc15,if_neg (by omega),if_neg (by omega)];rfl)
theorem fSign_calls(a:Nat)(ha:a<18446744073709551616)(H:Heap):ACall Tryz.prog 79 [.int .u64 (a:Int)] H (λy H'=>y= .int .i64 (fsignN a)∧H'=H):=by
  refine ACall.of_body Tryz.func79 rfl Tryz.ntmps79 Tryz.results79 rfl ?_;refine .sr ?_;refine .p rfl (pure_assign ev_int) ?_;refine .nr ?_;refine .mv rfl rfl ?_;refine .cl rfl Tryz.call141 (.cons (tm rfl) (.cons (ev_nat 0) .nil)) (fCmp_calls a 0 ha (by decide) _) ?_;refine .mv rfl rfl ?_;refine .p rfl (pure_extract (tm rfl) rfl) ?_;refine .p rfl (pure_extract (tm rfl) rfl) ?_;refine .as rfl rfl ?_;refine .as rfl rfl ?_;refine .nr ?_;refine .mv rfl rfl ?_;refine .as rfl rfl ?_;refine .ng ?_;refine .ret ?_;refine Ret.go (.cons (.tmp _ _ rfl) .nil) _ (Heap.le.refl _) ?_;exact⟨rfl,rfl⟩
theorem ofW_calls(a:Nat)(ha:a<18446744073709551616)(H:Heap):ACall Tryz.prog 143 [.int .u64 (a:Int)] H (λy H'=>y= .tuple [spA (negB a) (ofHalf a) (ofRest a) (ofWhole a),.bool (decide (partE a<0))]∧H'=H):=by
  have hpe:=partE_range a;have hpm:=partM_lt a;refine ACall.of_body Tryz.func143 rfl Tryz.ntmps143 Tryz.results143 rfl ?_;refine .sr ?_;refine .s rfl (step_al zr183) ?_;rintro _ _ ⟨b2,hb2,rfl,hH⟩;obtain rfl:=hH.symm;refine .p rfl (pure_assign ev_bool) ?_;refine .nr ?_;refine .mv rfl rfl ?_;refine .cl rfl Tryz.call128 (evs1 rfl) (Split_calls a ha _) ?_;refine .mv rfl rfl ?_;refine .p rfl (pure_extract (tm rfl) rfl) ?_;refine .p rfl (pure_extract (tm rfl) rfl) ?_;refine .p rfl (pure_extract (tm rfl) rfl) ?_;refine .as rfl rfl ?_;refine .as rfl rfl ?_;refine .as rfl rfl ?_;refine .ng ?_;refine .seq ?_;refine .sr ?_;refine .mv rfl rfl ?_;refine .p rfl (pure_geq (tm rfl) ev_int) ?_;refine .ng ?_;refine AWP.cond (tm rfl) (λhc16=>?_) (λhc16=>?_)
  · try simp only[decide_eq_true_eq]at hc16
    refine .sr ?_;refine .mv rfl rfl ?_;refine .mv rfl rfl ?_;refine .p rfl (pure_bd zr183 pl183 (.cons (tm rfl) (.inl rfl) (.cons (tm rfl) (.inl rfl) .nil))) ?_;refine .e0 (step_store Tryz.sizeOf183 (tm rfl) (tm rfl) rfl rfl (.inr ⟨_,rfl⟩) (Heap.objs_set_same _ _ _) (Nat.le_of_ble_eq_true rfl)) ?_;try first|rw[Heap.set_set]|rw[Heap.set_under (by assumption)]
    refine .p rfl (pure_assign ev_bool) ?_;refine .ng ?_;refine AWP.frz (t:=2) rfl (hb2) ?_;refine .ret ?_;refine Next.rt ?_;refine Ret.go (.cons (.cellI _ _ _ _ rfl Tryz.isAgg183 Tryz.sizeOf183 rfl) (.cons (.tmp _ _ rfl) .nil)) _ (Heap.le.refl _) ?_;refine⟨?_,rfl⟩;obtain⟨e1,e2,e3⟩:=of_big (a:=a) (by omega);rw[e1,e2,e3,decide_eq_false (show¬partE a<0 by omega)];rfl
  try simp only[decide_eq_false_iff_not,Int.not_le]at hc16
  refine .skip ?_;refine Next.go ?_;refine .sr ?_;refine .mv rfl rfl ?_;refine .p rfl (pure_bd zr91 pl91 (.cons (tm rfl) (.inl rfl) .nil)) ?_;refine .mv rfl rfl ?_;refine .p rfl (pure_neg (tm rfl) (by omega)) ?_;refine .p rfl (pure_sub (tm rfl) ev_int (by omega)) ?_;refine .cl rfl Tryz.call203 (evs2 rfl rfl) ((by have h:=λH=>wShr_calls (partM a) (Nat.lt_trans hpm (by decide+kernel)) ((-partE a).toNat-1) (by omega) (-partE a-1) (by omega) H;rw[u2_low (Nat.lt_trans hpm (by decide))]at h;exact h _)) ?_;refine .mv rfl rfl ?_;refine .p rfl (pure_extract (tm rfl) rfl) ?_;refine .p rfl (pure_extract (tm rfl) rfl) ?_;refine .s rfl (step_al zr91) ?_;rintro _ _ ⟨b7,hb7,rfl,hH⟩;obtain rfl:=hH.symm;have hn2_7:=Heap.ne_of (b:=b2) (Heap.objs_set_same _ _ _) hb7;refine .e0 (step_store Tryz.sizeOf91 (tm rfl) (tm rfl) rfl rfl (.inr ⟨_,rfl⟩) (Heap.objs_set_same _ _ _) (Nat.le_of_ble_eq_true rfl)) ?_;try first|rw[Heap.set_set]|rw[Heap.set_under (by assumption)]
  refine .as rfl rfl ?_;refine .ng ?_;refine AWP.frz (t:=7) rfl (hb7) ?_;refine .seq ?_;have hnl:partM a/2^((-partE a).toNat-1)<M1:=Nat.lt_of_le_of_lt (Nat.div_le_self _ _) (Nat.lt_trans hpm (by decide));have hnl2:partM a/2^((-partE a).toNat-1)<18446744073709551616:=hnl;obtain⟨e1,e2,e3⟩:=of_small (a:=a) (by omega) rfl;rw[u2_low hnl];refine .region ?_;refine .mv rfl rfl ?_;refine .p rfl (pure_fieldI Tryz.underlying91 rfl Tryz.sizeOf25 (tm rfl)) ?_;refine .p rfl (pure_load1 Tryz.isAgg25 (tm rfl)) ?_;refine .p rfl (pure_and64 (tm rfl) (ev_nat 1) (by assumption) (by omega)) ?_;refine .p rfl (pure_eql (tm rfl) (ev_nat 1)) ?_;refine .mv rfl rfl ?_;refine .p rfl (pure_fieldI Tryz.underlying91 rfl Tryz.sizeOf25 (tm rfl)) ?_;refine .p rfl (pure_load1 Tryz.isAgg25 (tm rfl)) ?_;refine .p rfl (pure_shr64 (tm rfl) (ev_nat 1) (by assumption)) ?_;refine .p rfl (pure_bd zr183 pl183 (.cons (tm rfl) (.inl rfl) (.cons (tm rfl) (.inl rfl) (.cons (tm rfl) (.inl rfl) (.cons (tm rfl) (.inl rfl) .nil))))) ?_;refine .e0 (step_store Tryz.sizeOf183 (tm rfl) (tm rfl) rfl rfl (.inr ⟨_,rfl⟩) (Heap.objs_set_same _ _ _) (Nat.le_of_ble_eq_true rfl)) ?_;try first|rw[Heap.set_set]|rw[Heap.set_under (by assumption)]
  refine .p rfl (pure_assign ev_bool) ?_;refine .ng ?_;refine AWP.frz (t:=2) rfl (hb2) ?_;refine .ret ?_;refine Ret.go (.cons (.cellI _ _ _ _ rfl Tryz.isAgg183 Tryz.sizeOf183 rfl) (.cons (.tmp _ _ rfl) .nil)) _ (Heap.le.refl _) ?_;refine⟨?_,rfl⟩;rw[←e1,←e2,←e3,decide_eq_true (show partE a<0 by omega)];rfl
theorem spRound_calls(neg half rest:Bool)(n:Nat)(H:Heap):ACall Tryz.prog 144 [spA neg half rest n,.int .i64 2] H (λy H'=>y= .int .u64 (n:Int)∧H'=H):=by
  refine ACall.of_body Tryz.func144 rfl Tryz.ntmps144 Tryz.results144 rfl ?_;refine .sr ?_;refine .e rfl (step_boxI (tm rfl) (.inr ⟨_,rfl⟩)) ?_;refine .p rfl (pure_assign (ev_nat 0)) ?_;refine .ng ?_;refine .seq ?_;refine .sr ?_;refine .mv rfl rfl ?_;refine .ng ?_;refine .block ?_;refine .sr ?_;refine .p rfl (pure_eql (tm rfl) ev_int) ?_;refine .as rfl rfl ?_;refine .ng ?_;refine AWP.cond_false (tm rfl) (by rfl) ?_;refine .sr ?_;refine .p rfl (pure_eql (tm rfl) ev_int) ?_;refine .as rfl rfl ?_;refine .ng ?_;refine AWP.cond_false (tm rfl) (by rfl) ?_;refine .sr ?_;refine .p rfl (pure_eql (tm rfl) ev_int) ?_;refine .as rfl rfl ?_;refine .ng ?_;refine AWP.cond_false (tm rfl) (by rfl) ?_;refine .sr ?_;refine .p rfl (pure_eql (tm rfl) ev_int) ?_;refine .as rfl rfl ?_;refine .ng ?_;refine AWP.cond_false (tm rfl) (by rfl) ?_;refine .sr ?_;refine .p rfl (pure_eql (tm rfl) ev_int) ?_;refine .as rfl rfl ?_;refine .ng ?_;refine AWP.cond_false (tm rfl) (by rfl) ?_;refine .skip ?_;refine Block.go ?_;refine Next.go ?_;refine .sr ?_;refine .p rfl (pure_fieldI Tryz.underlying183 rfl Tryz.sizeOf25 (tm rfl)) ?_;refine .p rfl (pure_load1 Tryz.isAgg25 (tm rfl)) ?_;refine .as rfl rfl ?_;refine .ng ?_;refine .ret ?_;refine Ret.go (.cons (.tmp _ _ rfl) .nil) _ (Heap.le.refl _) ?_;exact⟨rfl,rfl⟩
theorem fTo_calls(a:Nat)(ha:a<18446744073709551616)(H:Heap):ACall Tryz.prog 72 [.int .u64 (a:Int),.int .i64 2] H (λy H'=>y= .tuple [.int .i64 (toN a).1,.int .i64 (toN a).2]∧H'=H):=by
  have hpe:=partE_range a;have hpm:=partM_lt a;have htl:toM a<18446744073709551616∨11<partE a:=by
    rcases Int.lt_or_le 11 (partE a)with h|h
    · exact .inr h
    left;unfold toM;split
    · exact Nat.lt_of_le_of_lt (Nat.div_le_self _ _) (by omega)
    exact shl_11 hpm h
  refine ACall.of_body Tryz.func72 rfl Tryz.ntmps72 Tryz.results72 rfl ?_;refine .sr ?_;refine .p rfl (pure_assign ev_int) ?_;refine .p rfl (pure_assign ev_int) ?_;refine .ng ?_;refine .seq ?_;refine .block ?_;refine .sr ?_;refine .mv rfl rfl ?_;refine .p rfl (pure_lss (tm rfl) ev_int) ?_;refine .mv rfl rfl ?_;refine .gp rfl rfl rfl (by rfl) (pure_move (tm rfl)) ?_;refine .gp rfl rfl rfl (by rfl) (pure_gtr (tm rfl) ev_int) ?_;refine .p rfl (pure_pickF (tm rfl) (by rfl) (tm rfl)) ?_;refine .as rfl rfl ?_;refine .ng ?_;refine AWP.cond_false (tm rfl) (by rfl) ?_;refine .sr ?_;refine .mv rfl rfl ?_;refine .cl rfl Tryz.call92 (evs1 rfl) (Kind_calls _ (by assumption) _) ?_;refine .p rfl (pure_geq (tm rfl) ev_int) ?_;refine .as rfl rfl ?_;refine .ng ?_;refine AWP.cond (tm rfl) (λhc18=>?_) (λhc18=>?_)
  · try simp only[decide_eq_true_eq]at hc18
    refine .sr ?_;refine .p rfl (pure_assign ev_int) ?_;refine .p rfl (pure_assign ev_int) ?_;refine .ng ?_;refine .ret ?_;refine Block.rt ?_;refine Next.rt ?_;refine Ret.go (.cons (.tmp _ _ rfl) (.cons (.tmp _ _ rfl) .nil)) _ (Heap.le.refl _) ?_;refine⟨?_,rfl⟩;rw[toN_big (by omega)];rfl
  try simp only[decide_eq_false_iff_not,Int.not_le]at hc18
  have h3:¬3≤kindN a:=by omega
  refine .skip ?_;refine Block.go ?_;refine Next.go ?_;refine .sr ?_;refine .mv rfl rfl ?_;refine .cl rfl Tryz.call143 (evs1 rfl) (ofW_calls a ha _) ?_;refine .mv rfl rfl ?_;refine .p rfl (pure_extract (tm rfl) rfl) ?_;refine .p rfl (pure_extract (tm rfl) rfl) ?_;refine .s rfl (step_al zr183) ?_;rintro _ _ ⟨b6,hb6,rfl,hH⟩;obtain rfl:=hH.symm;refine .e0 (step_store Tryz.sizeOf183 (tm rfl) (tm rfl) rfl rfl (.inr ⟨_,rfl⟩) (Heap.objs_set_same _ _ _) (Nat.le_of_ble_eq_true rfl)) ?_;try first|rw[Heap.set_set]|rw[Heap.set_under (by assumption)]
  refine .as rfl rfl ?_;refine .ng ?_;refine AWP.meet (λenv H2=>(¬(0≤partE a∧11<partE a))∧env=[(4,.int .i64 0),(5,.int .i64 0),(6,.ptr (some ⟨b6,0,none⟩))]∧H2=H.set b6 (.box 183 [.bool (negB a),.bool (ofHalf a),.bool (ofRest a),.int .u64 ((toM a:Nat):Int)])) ?_ ?_
  · refine .sr ?_;refine .mv rfl rfl ?_;refine .ng ?_;refine AWP.cond (tm rfl) (λhc27=>?_) (λhc27=>?_)
    · try simp only[decide_eq_true_eq]at hc27
      have he0:partE a<0:=by simpa using hc27
      refine .region ?_;refine .e rfl (step_loadN Tryz.isAgg183 Tryz.sizeOf183 (tm rfl) (Heap.objs_set_same _ _ _) (Nat.le_of_ble_eq_true rfl)) ?_;refine .mv rfl rfl ?_;refine .cl rfl Tryz.call144 (evs2 rfl rfl) (spRound_calls _ _ _ _ _) ?_;refine .p rfl (pure_field Tryz.underlying183 rfl Tryz.sizeOf25 (tm rfl)) ?_;refine .e0 (step_store Tryz.sizeOf25 (tm rfl) (tm rfl) rfl rfl (.inl rfl) (Heap.objs_set_same _ _ _) (Nat.le_of_ble_eq_true rfl)) ?_;try first|rw[Heap.set_set]|rw[Heap.set_under (by assumption)]
      refine .ng ?_;refine Meets.mk (M:=λenv H2=>(¬(0≤partE a∧11<partE a))∧env=[(4,.int .i64 0),(5,.int .i64 0),(6,.ptr (some ⟨b6,0,none⟩))]∧H2=H.set b6 (.box 183 [.bool (negB a),.bool (ofHalf a),.bool (ofRest a),.int .u64 ((toM a:Nat):Int)])) ⟨by omega,rfl,by rw[show toM a=ofWhole a by unfold toM ofWhole;rw[if_pos he0,if_pos he0]];rfl⟩ (sub_c rfl (sub_c rfl (sub_c rfl sub_n))) (Heap.le.refl _)
    try simp only[decide_eq_false_iff_not,Int.not_lt]at hc27
    have he0:¬partE a<0:=by simpa using hc27
    refine .sr ?_;refine .mv rfl rfl ?_;refine .cl rfl Tryz.call128 (evs1 rfl) (Split_calls a ha _) ?_;refine .mv rfl rfl ?_;refine .p rfl (pure_extract (tm rfl) rfl) ?_;refine .p rfl (pure_extract (tm rfl) rfl) ?_;refine .p rfl (pure_extract (tm rfl) rfl) ?_;refine .as rfl rfl ?_;refine .as rfl rfl ?_;refine .as rfl rfl ?_;refine .ng ?_;refine .seq ?_;refine .sr ?_;refine .mv rfl rfl ?_;refine .p rfl (pure_gtr (tm rfl) ev_int) ?_;refine .ng ?_;refine AWP.cond (tm rfl) (λhc39=>?_) (λhc39=>?_)
    · try simp only[decide_eq_true_eq]at hc39
      refine .sr ?_;refine .p rfl (pure_assign ev_int) ?_;refine .p rfl (pure_assign ev_int) ?_;refine .ng ?_;refine AWP.dropb (hb6) ?_;refine .ret ?_;refine Next.rt ?_;refine Next.rt ?_;refine Ret.go (.cons (.tmp _ _ rfl) (.cons (.tmp _ _ rfl) .nil)) _ (Heap.le.refl _) ?_;refine⟨?_,rfl⟩;rw[toN_eq h3];first
      |(rw[if_pos (by omega)];rfl)
      |(rw[if_neg (by omega),if_pos hc44.1,if_pos hc44.2,←neg_back hc44.2];rfl)
      |(rw[if_neg (by omega),if_neg (by rw[hc56.1];decide),if_pos hc56.2];rfl)
      |(rw[if_neg (by omega)];cases hnb:negB a<;>first|(rw[if_neg (by decide),if_neg (by simp[hnb]at hc56;omega)];rfl)|(rw[if_pos rfl,if_neg (by simp[hnb]at hc44;omega)];rfl))
    try simp only[decide_eq_false_iff_not,Int.not_lt]at hc39
    have he11:=shl_11 (e:=partE a) hpm (by omega);refine .skip ?_;refine Next.go ?_;refine .region ?_;refine .mv rfl rfl ?_;refine .mv rfl rfl ?_;refine .p rfl (.as (b:=.int .u64 ((toM a:Nat):Int)) (by congr 2;exact(if_neg he0).symm) (pure_shlX64 (q:=(partE a).toNat) (tm rfl) (by rw[show(((partE a).toNat:Nat):Int)=partE a by omega];exact .tmp _ _ rfl) (by omega) he11)) ?_;refine .p rfl (pure_field Tryz.underlying183 rfl Tryz.sizeOf25 (tm rfl)) ?_;refine .e0 (step_store Tryz.sizeOf25 (tm rfl) (tm rfl) rfl rfl (.inl rfl) (Heap.objs_set_same _ _ _) (Nat.le_of_ble_eq_true rfl)) ?_;try first|rw[Heap.set_set]|rw[Heap.set_under (by assumption)]
    refine .ng ?_;refine Meets.mk (M:=λenv H2=>(¬(0≤partE a∧11<partE a))∧env=[(4,.int .i64 0),(5,.int .i64 0),(6,.ptr (some ⟨b6,0,none⟩))]∧H2=H.set b6 (.box 183 [.bool (negB a),.bool (ofHalf a),.bool (ofRest a),.int .u64 ((toM a:Nat):Int)])) ⟨by omega,rfl,rfl⟩ (sub_c rfl (sub_c rfl (sub_c rfl sub_n))) (Heap.le.refl _)
  rintro _ _ ⟨hm11,rfl,rfl⟩;have htl2:toM a<18446744073709551616:=by omega
  refine .seq ?_;refine .block ?_;refine AWP.seqTo 44 (.bool (negB a&&decide (toM a≤9223372036854775808))) [4,5,6] ?_ ?_
  · refine .region ?_;refine .p rfl (pure_field Tryz.underlying183 rfl Tryz.sizeOf4 (tm rfl)) ?_;refine .e rfl (step_load1 Tryz.isAgg4 (tm rfl) (Heap.objs_set_same _ _ _) rfl) ?_;refine .mv rfl rfl ?_;refine bool_casesL (t:=47) rfl (λhg47=>?_) (λhg47=>?_)
    · have hh47:=hg47;try simp only[decide_eq_true_eq,decide_eq_false_iff_not,Bool.not_eq_true',Bool.not_eq_false',Int.not_lt,Int.not_le,ne_eq,Decidable.not_not]at hh47
      refine .gp rfl rfl rfl (by assumption) (pure_field Tryz.underlying183 rfl Tryz.sizeOf25 (tm rfl)) ?_;refine .gs rfl rfl rfl (by assumption) (step_load1 Tryz.isAgg25 (tm rfl) (Heap.objs_set_same _ _ _) rfl) ?_;rintro _ _ ⟨rfl,hH⟩;obtain rfl:=hH.symm;refine .gp rfl rfl rfl (by assumption) (pure_leq (tm rfl) (ev_nat 9223372036854775808)) ?_;refine .p rfl (pure_pickT (tm rfl) (by assumption) (tm rfl)) ?_;refine .as rfl rfl ?_;refine .nil ?_;exact⟨rfl,sub_b rfl (by(rw[show negB a=_ from hg47,Bool.true_and];exact decide_eq_decide.2 (by omega))) (sub_c rfl (sub_c rfl (sub_c rfl sub_n))),rfl⟩
    have hh47:=hg47;try simp only[decide_eq_true_eq,decide_eq_false_iff_not,Bool.not_eq_true',Bool.not_eq_false',Int.not_lt,Int.not_le,ne_eq,Decidable.not_not]at hh47
    refine .gn rfl rfl rfl (by assumption) ?_;refine .gn rfl rfl rfl (by assumption) ?_;refine .gn rfl rfl rfl (by assumption) ?_;refine .p rfl (pure_pickF (tm rfl) (by assumption) ev_bool) ?_;refine .as rfl rfl ?_;refine .nil ?_;exact⟨rfl,sub_b rfl (by(rw[show negB a=_ from hg47,Bool.false_and])) (sub_c rfl (sub_c rfl (sub_c rfl sub_n))),rfl⟩
  refine AWP.sub [(44,_),(4,_),(5,_),(6,_)] (sub_c rfl (sub_c rfl (sub_c rfl (sub_c rfl sub_n)))) ?_;refine AWP.cond (tm rfl) (λhc44=>?_) (λhc44=>?_)
  · try simp only[decide_eq_true_eq,decide_eq_false_iff_not,Bool.not_eq_true',Bool.not_eq_false',Int.not_lt,Int.not_le,ne_eq,Decidable.not_not]at hc44
    simp only[Bool.and_eq_true,decide_eq_true_eq]at hc44;refine .sr ?_;refine .p rfl (pure_field Tryz.underlying183 rfl Tryz.sizeOf25 (tm rfl)) ?_;refine .e rfl (step_load1 Tryz.isAgg25 (tm rfl) (Heap.objs_set_same _ _ _) rfl) ?_;refine .p rfl (pure_negW (tm rfl)) ?_;refine .p rfl (pure_convW Tryz.underlying25 Tryz.underlying3 (tm rfl)) ?_;refine .as rfl rfl ?_;refine .p rfl (pure_assign ev_int) ?_;refine .ng ?_;refine AWP.dropb (hb6) ?_;refine .ret ?_;refine Block.rt ?_;refine Next.rt ?_;refine Ret.go (.cons (.tmp _ _ rfl) (.cons (.tmp _ _ rfl) .nil)) _ (Heap.le.refl _) ?_;refine⟨?_,rfl⟩;rw[toN_eq h3];first
    |(rw[if_pos (by omega)];rfl)
    |(rw[if_neg (by omega),if_pos hc44.1,if_pos hc44.2,←neg_back hc44.2];rfl)
    |(rw[if_neg (by omega),if_neg (by rw[hc56.1];decide),if_pos hc56.2];rfl)
    |(rw[if_neg (by omega)];cases hnb:negB a<;>first|(rw[if_neg (by decide),if_neg (by simp[hnb]at hc56;omega)];rfl)|(rw[if_pos rfl,if_neg (by simp[hnb]at hc44;omega)];rfl))
  try simp only[decide_eq_true_eq,decide_eq_false_iff_not,Bool.not_eq_true',Bool.not_eq_false',Int.not_lt,Int.not_le,ne_eq,Decidable.not_not]at hc44
  simp only[Bool.and_eq_false_iff,decide_eq_false_iff_not]at hc44;refine AWP.seqTo 56 (.bool (!negB a&&decide (toM a<9223372036854775808))) [4,5,6] ?_ ?_
  · refine .region ?_;refine .p rfl (pure_field Tryz.underlying183 rfl Tryz.sizeOf4 (tm rfl)) ?_;refine .e rfl (step_load1 Tryz.isAgg4 (tm rfl) (Heap.objs_set_same _ _ _) rfl) ?_;refine .p rfl (pure_not (tm rfl)) ?_;refine .mv rfl rfl ?_;refine bool_casesL (t:=60) rfl (λhg60=>?_) (λhg60=>?_)
    · have hh60:=hg60;try simp only[Bool.not_eq_true']at hh60
      refine .gp rfl rfl rfl (by assumption) (pure_field Tryz.underlying183 rfl Tryz.sizeOf25 (tm rfl)) ?_;refine .gs rfl rfl rfl (by assumption) (step_load1 Tryz.isAgg25 (tm rfl) (Heap.objs_set_same _ _ _) rfl) ?_;rintro _ _ ⟨rfl,hH⟩;obtain rfl:=hH.symm;refine .gp rfl rfl rfl (by assumption) (pure_lss (tm rfl) (ev_nat 9223372036854775808)) ?_;refine .p rfl (pure_pickT (tm rfl) (by assumption) (tm rfl)) ?_;refine .as rfl rfl ?_;refine .nil ?_;exact⟨rfl,sub_b rfl (by(rw[show(!negB a)=_ from hg60,Bool.true_and];exact decide_eq_decide.2 (by omega))) (sub_c rfl (sub_c rfl (sub_c rfl sub_n))),rfl⟩
    have hh60:=hg60;try simp only[Bool.not_eq_false']at hh60
    refine .gn rfl rfl rfl (by assumption) ?_;refine .gn rfl rfl rfl (by assumption) ?_;refine .gn rfl rfl rfl (by assumption) ?_;refine .p rfl (pure_pickF (tm rfl) (by assumption) ev_bool) ?_;refine .as rfl rfl ?_;refine .nil ?_;exact⟨rfl,sub_b rfl (by(rw[show(!negB a)=_ from hg60,Bool.false_and])) (sub_c rfl (sub_c rfl (sub_c rfl sub_n))),rfl⟩
  refine AWP.sub [(56,_),(4,_),(5,_),(6,_)] (sub_c rfl (sub_c rfl (sub_c rfl (sub_c rfl sub_n)))) ?_;refine AWP.cond (tm rfl) (λhc56=>?_) (λhc56=>?_)
  · try simp only[decide_eq_true_eq,decide_eq_false_iff_not,Bool.not_eq_true',Bool.not_eq_false',Int.not_lt,Int.not_le,ne_eq,Decidable.not_not]at hc56
    simp only[Bool.and_eq_true,Bool.not_eq_true',decide_eq_true_eq]at hc56;refine .sr ?_;refine .p rfl (pure_field Tryz.underlying183 rfl Tryz.sizeOf25 (tm rfl)) ?_;refine .e rfl (step_load1 Tryz.isAgg25 (tm rfl) (Heap.objs_set_same _ _ _) rfl) ?_;refine .p rfl (pure_convX Tryz.underlying25 Tryz.underlying3 (tm rfl) (wrapNI64 (by omega))) ?_;refine .as rfl rfl ?_;refine .p rfl (pure_assign ev_int) ?_;refine .ng ?_;refine AWP.dropb (hb6) ?_;refine .ret ?_;refine Block.rt ?_;refine Next.rt ?_;refine Ret.go (.cons (.tmp _ _ rfl) (.cons (.tmp _ _ rfl) .nil)) _ (Heap.le.refl _) ?_;refine⟨?_,rfl⟩;rw[toN_eq h3];first
    |(rw[if_pos (by omega)];rfl)
    |(rw[if_neg (by omega),if_pos hc44.1,if_pos hc44.2,←neg_back hc44.2];rfl)
    |(rw[if_neg (by omega),if_neg (by rw[hc56.1];decide),if_pos hc56.2];rfl)
    |(rw[if_neg (by omega)];cases hnb:negB a<;>first|(rw[if_neg (by decide),if_neg (by simp[hnb]at hc56;omega)];rfl)|(rw[if_pos rfl,if_neg (by simp[hnb]at hc44;omega)];rfl))
  try simp only[decide_eq_true_eq,decide_eq_false_iff_not,Bool.not_eq_true',Bool.not_eq_false',Int.not_lt,Int.not_le,ne_eq,Decidable.not_not]at hc56
  simp only[Bool.and_eq_false_iff,Bool.not_eq_false',decide_eq_false_iff_not]at hc56;refine .skip ?_;refine Block.go ?_;refine Next.go ?_;refine .sr ?_;refine .p rfl (pure_assign ev_int) ?_;refine .p rfl (pure_assign ev_int) ?_;refine .ng ?_;refine AWP.dropb (hb6) ?_;refine .ret ?_;refine Ret.go (.cons (.tmp _ _ rfl) (.cons (.tmp _ _ rfl) .nil)) _ (Heap.le.refl _) ?_;refine⟨?_,rfl⟩;rw[toN_eq h3];first
  |(rw[if_pos (by omega)];rfl)
  |(rw[if_neg (by omega),if_pos hc44.1,if_pos hc44.2,←neg_back hc44.2];rfl)
  |(rw[if_neg (by omega),if_neg (by rw[hc56.1];decide),if_pos hc56.2];rfl)
  |(rw[if_neg (by omega)];cases hnb:negB a<;>first|(rw[if_neg (by decide),if_neg (by simp[hnb]at hc56;omega)];rfl)|(rw[if_pos rfl,if_neg (by simp[hnb]at hc44;omega)];rfl))
end Go.Proofs.YtojblnldfdeefaaGreatDoor
namespace Go.Proofs.YtojblnldfdeefaaGreatDoor
open Go Go.RowKit
structure Val where
  kind:Int
  bits:Nat
  is:Bool
  text:List UInt8
  fail:Int
instance:DecidableEq Val:=λx y=>
  if h:x.kind=y.kind∧x.bits=y.bits∧x.is=y.is∧x.text=y.text∧x.fail=y.fail then .isTrue (by cases x;cases y;simp_all)else .isFalse (by rintro rfl;exact h ⟨rfl,rfl,rfl,rfl,rfl⟩)
def Val.cs(v:Val):List AV:=[.int .i64 v.kind,.int .u64 (v.bits:Int),.bool v.is,.str v.text,.int .i64 v.fail]
def Val.av(v:Val):AV:=.agg v.cs
def FailV(n:Int):Val:=⟨4,0,false,[],n⟩
def BoolV(b:Bool):Val:=⟨2,0,b,[],0⟩
def NumV(x:Nat):Val:=if 3≤kindN x then FailV 6 else⟨1,x,false,[],0⟩
end Go.Proofs.YtojblnldfdeefaaGreatDoor
