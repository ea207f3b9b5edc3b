/-
  Values that are numbers: what is made of them, what they are as numbers and as truths.
-/
import Derived.Test.YtojblnldfdeefaaGreatDoorZx
import Derived.Test.YtojblnldfdeefaaGreatDoorF1k
namespace Go.Proofs.YtojblnldfdeefaaGreatDoor
open Go Go.RowKit
set_option maxRecDepth 100000
theorem zr27:ZR 27 [.int .i64 0,.int .u64 0,.bool false,.str [],.int .i64 0]:=ZRi Tryz.zeroValue27
theorem pl27:PL 27 [(0,1),(1,1),(2,1),(3,1),(4,1)]:=PLi Tryz.underlying27 ⟨rfl,Tryz.sizeOf3,rfl,Tryz.sizeOf25,rfl,Tryz.sizeOf4,rfl,Tryz.sizeOf9,rfl,Tryz.sizeOf3,True.intro⟩
def Val.vals(r:Val):List Value:=[.int .i64 r.kind,.int .u64 (r.bits:Int),.bool r.is,.string ⟨r.text.toArray⟩,.int .i64 r.fail]
theorem bytes_inj{a b:List UInt8}:((⟨a.toArray⟩:ByteArray)=⟨b.toArray⟩)↔a=b:=by
  constructor
  · intro h;have:=congrArg (λx:ByteArray=>x.data.toList) h;simpa using this
  rintro rfl;rfl
theorem eqInV(d:Nat)(r s:Val)(w:World):(Op.equalIn (d+2) 27 (.agg r.vals.toArray) (.agg s.vals.toArray)).run Tryz.prog w= .ok (decide (r=s)) w:=by
  have u3:=Tryz.underlying3;have a3:=Tryz.isAgg3;have z3:=Tryz.sizeOf3;have u4:=Tryz.underlying4;have a4:=Tryz.isAgg4;have z4:=Tryz.sizeOf4;have u22:=Tryz.underlying25;have a22:=Tryz.isAgg25;have z22:=Tryz.sizeOf25;have u9:=Tryz.underlying9;have a9:=Tryz.isAgg9;have z9:=Tryz.sizeOf9;have hS:Tryz.prog.underlying 27=some (.struct (Tryz.prog.fieldsOf 27)):=by kernel_rfl
  have hp:Tryz.prog.stoodInHeld 27=false:=by kernel_rfl
  rw[run_equalIn_agg w (d+1) 27 _ _ hS hp];simp only[Program.fieldsOf,Tryz.underlying27,Val.vals]
  go_simp
  obtain⟨a,b,c,e,f⟩:=r;obtain⟨a',b',c',e',f'⟩:=s;have hb:=@bytes_inj e e';by_cases h1:a=a'<;>by_cases h2:b=b'<;>by_cases h3:c=c'<;>by_cases h4:e=e'<;>by_cases h5:f=f'<;>simp[h1,h2,h3,h4,h5,Int.ofNat_inj]
theorem eqVal(r s:Val):EqCells Tryz.prog 27 r.cs s.cs (decide (r=s)):=λg xs ys w h k=>by
  rw[h.plain r.vals rfl,k.plain s.vals rfl];exact eqInV 9998 r s w
theorem vFail_calls(n:Int)(H:Heap):ACall Tryz.prog 22 [.int .i64 n] H (λy H'=>y=(FailV n).av∧H'=H):=by
  refine ACall.of_body Tryz.func22 rfl Tryz.ntmps22 Tryz.results22 rfl ?_;refine .sr ?_;refine .s rfl (step_al zr27) ?_;rintro _ _ ⟨b2,hb2,rfl,hH⟩;obtain rfl:=hH.symm;refine .nr ?_;refine .mv rfl rfl ?_;refine .p rfl (pure_bd zr27 pl27 (.cons ev_int (.inl rfl) (.cons (tm rfl) (.inl rfl) .nil))) ?_;refine .e0 (step_store Tryz.sizeOf27 (tm rfl) (tm rfl) rfl rfl (.inr ⟨_,rfl⟩) (Heap.objs_set_same _ _ _) (Nat.le_of_ble_eq_true rfl)) ?_;try first|rw[Heap.set_set]|rw[Heap.set_under (by assumption)]
  refine .ng ?_;refine AWP.frz (t:=2) rfl (hb2) ?_;refine .ret ?_;refine Ret.go (.cons (.cellI _ _ _ _ rfl Tryz.isAgg27 Tryz.sizeOf27 rfl) .nil) _ (Heap.le.refl _) ?_;exact⟨rfl,rfl⟩
theorem vBool_calls(b:Bool)(H:Heap):ACall Tryz.prog 44 [.bool b] H (λy H'=>y=(BoolV b).av∧H'=H):=by
  refine ACall.of_body Tryz.func44 rfl Tryz.ntmps44 Tryz.results44 rfl ?_;refine .sr ?_;refine .s rfl (step_al zr27) ?_;rintro _ _ ⟨b2,hb2,rfl,hH⟩;obtain rfl:=hH.symm;refine .nr ?_;refine .mv rfl rfl ?_;refine .p rfl (pure_bd zr27 pl27 (.cons ev_int (.inl rfl) (.cons (tm rfl) (.inl rfl) .nil))) ?_;refine .e0 (step_store Tryz.sizeOf27 (tm rfl) (tm rfl) rfl rfl (.inr ⟨_,rfl⟩) (Heap.objs_set_same _ _ _) (Nat.le_of_ble_eq_true rfl)) ?_;try first|rw[Heap.set_set]|rw[Heap.set_under (by assumption)]
  refine .ng ?_;refine AWP.frz (t:=2) rfl (hb2) ?_;refine .ret ?_;refine Ret.go (.cons (.cellI _ _ _ _ rfl Tryz.isAgg27 Tryz.sizeOf27 rfl) .nil) _ (Heap.le.refl _) ?_;exact⟨rfl,rfl⟩
theorem vNumber_calls(x:Nat)(hx:x<18446744073709551616)(H:Heap):ACall Tryz.prog 43 [.int .u64 (x:Int)] H (λy H'=>y=(NumV x).av∧H'=H):=by
  refine ACall.of_body Tryz.func43 rfl Tryz.ntmps43 Tryz.results43 rfl ?_;refine .sr ?_;refine .s rfl (step_al zr27) ?_;rintro _ _ ⟨b2,hb2,rfl,hH⟩;obtain rfl:=hH.symm;refine .ng ?_;refine .seq ?_;refine .sr ?_;refine .mv rfl rfl ?_;refine .cl rfl Tryz.call92 (evs1 rfl) (Kind_calls _ (by assumption) _) ?_;refine .p rfl (pure_geq (tm rfl) ev_int) ?_;refine .ng ?_;refine AWP.cond (tm rfl) (λhc5=>?_) (λhc5=>?_)
  · try simp only[decide_eq_true_eq]at hc5
    refine .sr ?_;refine .cl rfl Tryz.call22 (.cons ev_int .nil) (vFail_calls _ _) ?_;refine .e0 (step_store Tryz.sizeOf27 (tm rfl) (tm rfl) rfl rfl (.inr ⟨_,rfl⟩) (Heap.objs_set_same _ _ _) (Nat.le_of_ble_eq_true rfl)) ?_;try first|rw[Heap.set_set]|rw[Heap.set_under (by assumption)]
    refine .ng ?_;refine AWP.frz (t:=2) rfl (hb2) ?_;refine .ret ?_;refine Next.rt ?_;refine Ret.go (.cons (.cellI _ _ _ _ rfl Tryz.isAgg27 Tryz.sizeOf27 rfl) .nil) _ (Heap.le.refl _) ?_;refine⟨?_,rfl⟩;rw[show NumV x=FailV 6 from if_pos (by omega)];rfl
  try simp only[decide_eq_false_iff_not,Int.not_le]at hc5
  refine .skip ?_;refine Next.go ?_;refine .sr ?_;refine .mv rfl rfl ?_;refine .p rfl (pure_bd zr27 pl27 (.cons ev_int (.inl rfl) (.cons (tm rfl) (.inl rfl) .nil))) ?_;refine .e0 (step_store Tryz.sizeOf27 (tm rfl) (tm rfl) rfl rfl (.inr ⟨_,rfl⟩) (Heap.objs_set_same _ _ _) (Nat.le_of_ble_eq_true rfl)) ?_;try first|rw[Heap.set_set]|rw[Heap.set_under (by assumption)]
  refine .ng ?_;refine AWP.frz (t:=2) rfl (hb2) ?_;refine .ret ?_;refine Ret.go (.cons (.cellI _ _ _ _ rfl Tryz.isAgg27 Tryz.sizeOf27 rfl) .nil) _ (Heap.le.refl _) ?_;refine⟨?_,rfl⟩;rw[show NumV x=⟨1,x,false,[],0⟩from if_neg (by omega)];rfl
def nv(x:Nat):Val:=⟨1,x,false,[],0⟩
def nvA(x:Nat):AV:=(nv x).av
theorem num_nv{x:Nat}(h:kindN x<3):NumV x=nv x:=if_neg (by omega)
theorem ToNum_calls(p:AV)(x:Nat)(_:x<18446744073709551616)(H:Heap):ACall Tryz.prog 70 [p,(nv x).av] H (λy H'=>y= .tuple [.int .u64 (x:Int),.int .i64 0]∧H'=H):=by
  refine ACall.of_body Tryz.func70 rfl Tryz.ntmps70 Tryz.results70 rfl ?_;refine .sr ?_;refine .e rfl (step_boxI (tm rfl) (.inr ⟨_,rfl⟩)) ?_;refine .p rfl (pure_assign (ev_nat 0)) ?_;refine .p rfl (pure_assign ev_int) ?_;refine .ng ?_;refine .seq ?_;refine .sr ?_;refine .p rfl (pure_fieldI Tryz.underlying27 rfl Tryz.sizeOf3 (tm rfl)) ?_;refine .p rfl (pure_load1 Tryz.isAgg3 (tm rfl)) ?_;refine .ng ?_;refine .block ?_;refine .sr ?_;refine .p rfl (pure_eql (tm rfl) ev_int) ?_;refine .as rfl rfl ?_;refine .ng ?_;refine AWP.cond_true (tm rfl) (by rfl) ?_;refine .sr ?_;refine .p rfl (pure_fieldI Tryz.underlying27 rfl Tryz.sizeOf25 (tm rfl)) ?_;refine .p rfl (pure_load1 Tryz.isAgg25 (tm rfl)) ?_;refine .as rfl rfl ?_;refine .p rfl (pure_assign ev_int) ?_;refine .ng ?_;refine .ret ?_;refine Block.rt ?_;refine Next.rt ?_;refine Ret.go (.cons (.tmp _ _ rfl) (.cons (.tmp _ _ rfl) .nil)) _ (Heap.le.refl _) ?_;exact⟨rfl,rfl⟩
theorem ToBool_calls(p:AV)(x:Nat)(hx:x<18446744073709551616)(H:Heap):ACall Tryz.prog 91 [p,(nv x).av] H (λy H'=>y= .tuple [.bool (decide (fsignN x≠0)),.int .i64 0]∧H'=H):=by
  refine ACall.of_body Tryz.func91 rfl Tryz.ntmps91 Tryz.results91 rfl ?_;refine .sr ?_;refine .e rfl (step_boxI (tm rfl) (.inr ⟨_,rfl⟩)) ?_;refine .p rfl (pure_assign ev_bool) ?_;refine .p rfl (pure_assign ev_int) ?_;refine .ng ?_;refine .seq ?_;refine .sr ?_;refine .p rfl (pure_fieldI Tryz.underlying27 rfl Tryz.sizeOf3 (tm rfl)) ?_;refine .p rfl (pure_load1 Tryz.isAgg3 (tm rfl)) ?_;refine .ng ?_;refine .block ?_;refine .sr ?_;refine .p rfl (pure_eql (tm rfl) ev_int) ?_;refine .as rfl rfl ?_;refine .ng ?_;refine AWP.cond_true (tm rfl) (by rfl) ?_;refine .sr ?_;refine .p rfl (pure_fieldI Tryz.underlying27 rfl Tryz.sizeOf25 (tm rfl)) ?_;refine .p rfl (pure_load1 Tryz.isAgg25 (tm rfl)) ?_;refine .cl rfl Tryz.call79 (evs1 rfl) (fSign_calls x hx _) ?_;refine .p rfl (pure_neq (tm rfl) ev_int) ?_;refine .as rfl rfl ?_;refine .p rfl (pure_assign ev_int) ?_;refine .ng ?_;refine .ret ?_;refine Block.rt ?_;refine Next.rt ?_;refine Ret.go (.cons (.tmp _ _ rfl) (.cons (.tmp _ _ rfl) .nil)) _ (Heap.le.refl _) ?_;exact⟨rfl,rfl⟩
theorem rRightN_calls(x:Nat)(hx:x<18446744073709551616)(H:Heap):ACall Tryz.prog 6 [(nv x).av] H (λy H'=>y= .bool (decide (kindN x<3))∧H'=H):=by
  refine ACall.of_body Tryz.func6 rfl Tryz.ntmps6 Tryz.results6 rfl ?_;refine .sr ?_;refine .e rfl (step_boxI (tm rfl) (.inr ⟨_,rfl⟩)) ?_;refine .p rfl (pure_assign ev_bool) ?_;refine .nr ?_;refine .p rfl (pure_fieldI Tryz.underlying27 rfl Tryz.sizeOf3 (tm rfl)) ?_;refine .p rfl (pure_load1 Tryz.isAgg3 (tm rfl)) ?_;refine .p rfl (pure_bd zr27 pl27 (.cons (tm rfl) (.inl rfl) .nil)) ?_;refine .s rfl (step_al zr27) ?_;rintro _ _ ⟨b3,hb3,rfl,hH⟩;obtain rfl:=hH.symm;refine .e0 (step_store Tryz.sizeOf27 (tm rfl) (tm rfl) rfl rfl (.inr ⟨_,rfl⟩) (Heap.objs_set_same _ _ _) (Nat.le_of_ble_eq_true rfl)) ?_;try first|rw[Heap.set_set]|rw[Heap.set_under (by assumption)]
  refine .nr ?_;refine .p rfl (pure_fieldI Tryz.underlying27 rfl Tryz.sizeOf3 (tm rfl)) ?_;refine .p rfl (pure_load1 Tryz.isAgg3 (tm rfl)) ?_;refine .p rfl (pure_eql (tm rfl) ev_int) ?_;refine .as rfl rfl ?_;refine .ng ?_;refine .seq ?_;refine .sr ?_;refine .p rfl (pure_fieldI Tryz.underlying27 rfl Tryz.sizeOf3 (tm rfl)) ?_;refine .p rfl (pure_load1 Tryz.isAgg3 (tm rfl)) ?_;refine .ng ?_;refine .block ?_;refine .sr ?_;refine .p rfl (pure_eql (tm rfl) ev_int) ?_;refine .as rfl rfl ?_;refine .ng ?_;refine AWP.cond_true (tm rfl) (by rfl) ?_;refine .sr ?_;refine .p rfl (pure_fieldI Tryz.underlying27 rfl Tryz.sizeOf25 (tm rfl)) ?_;refine .p rfl (pure_load1 Tryz.isAgg25 (tm rfl)) ?_;refine .p rfl (pure_field Tryz.underlying27 rfl Tryz.sizeOf25 (tm rfl)) ?_;refine .e0 (step_store Tryz.sizeOf25 (tm rfl) (tm rfl) rfl rfl (.inl rfl) (Heap.objs_set_same _ _ _) (Nat.le_of_ble_eq_true rfl)) ?_;try first|rw[Heap.set_set]|rw[Heap.set_under (by assumption)]
  refine .ng ?_;refine .region ?_;refine .p rfl (pure_fieldI Tryz.underlying27 rfl Tryz.sizeOf25 (tm rfl)) ?_;refine .p rfl (pure_load1 Tryz.isAgg25 (tm rfl)) ?_;refine .cl rfl Tryz.call18 (evs1 rfl) (rKind_calls x hx _) ?_;refine .p rfl (pure_lss (tm rfl) ev_int) ?_;refine .as rfl rfl ?_;refine .nil ?_;refine Block.go ?_;refine Next.go ?_;refine AWP.seqTo 2 (.bool (decide (kindN x<3))) [] ?_ ?_
  · refine .region ?_;refine .mv rfl rfl ?_;refine .mv rfl rfl ?_;refine bool_casesL (t:=50) rfl (λhg50=>?_) (λhg50=>?_)
    · have hh50:=hg50;try simp only[decide_eq_true_eq]at hh50
      refine .gp rfl rfl rfl (by assumption) (pure_loadN Tryz.isAgg27 Tryz.sizeOf27 (tm rfl) (Nat.le_of_ble_eq_true rfl)) ?_;refine .gs rfl rfl rfl (by assumption) (step_loadN Tryz.isAgg27 Tryz.sizeOf27 (tm rfl) (Heap.objs_set_same _ _ _) (Nat.le_of_ble_eq_true rfl)) ?_;rintro _ _ ⟨rfl,hH⟩;obtain rfl:=hH.symm;refine .gp rfl rfl rfl (by assumption) (pure_eqlA Tryz.eqGuardType27 (tm rfl) (tm rfl) (eqVal (nv x) (nv x))) ?_;refine .p rfl (pure_pickT (tm rfl) (by assumption) (tm rfl)) ?_;refine .as rfl rfl ?_;refine .nil ?_;exact⟨rfl,sub_b rfl (by(simp;omega)) sub_n,rfl⟩
    have hh50:=hg50;try simp only[decide_eq_false_iff_not,Int.not_lt]at hh50
    refine .gn rfl rfl rfl (by assumption) ?_;refine .gn rfl rfl rfl (by assumption) ?_;refine .gn rfl rfl rfl (by assumption) ?_;refine .p rfl (pure_pickF (tm rfl) (by assumption) ev_bool) ?_;refine .as rfl rfl ?_;refine .nil ?_;exact⟨rfl,sub_b rfl (by(simp;omega)) sub_n,rfl⟩
  refine AWP.sub [(2,_)] (sub_c rfl sub_n) ?_;refine AWP.dropb (hb3) ?_;refine .ret ?_;refine Ret.go (.cons (.tmp _ _ rfl) .nil) _ (Heap.le.refl _) ?_;exact⟨rfl,rfl⟩
end Go.Proofs.YtojblnldfdeefaaGreatDoor
namespace Go.Proofs.YtojblnldfdeefaaGreatDoor
open Go Go.RowKit
set_option maxRecDepth 100000
def minB(a b:Nat):Prop:=fcmpN a b<0∨(fcmpN a b=0∧9223372036854775808≤a)
instance (a b:Nat):Decidable (minB a b):=by unfold minB;infer_instance
def maxB(a b:Nat):Prop:=0<fcmpN a b∨(fcmpN a b=0∧a<9223372036854775808)
instance (a b:Nat):Decidable (maxB a b):=by unfold maxB;infer_instance
def fminN(a b:Nat):Nat:=if kindN a=4∨kindN b=4 then 9221120237041090560 else if minB a b then a else b
def fmaxN(a b:Nat):Nat:=if kindN a=4∨kindN b=4 then 9221120237041090560 else if maxB a b then a else b
theorem fmin_lt{a b:Nat}(ha:a<18446744073709551616)(hb:b<18446744073709551616):fminN a b<18446744073709551616:=by
  unfold fminN;split
  · decide
  split<;>assumption
theorem fmax_lt{a b:Nat}(ha:a<18446744073709551616)(hb:b<18446744073709551616):fmaxN a b<18446744073709551616:=by
  unfold fmaxN;split
  · decide
  split<;>assumption
theorem fMin_calls(a b:Nat)(ha:a<18446744073709551616)(hb:b<18446744073709551616)(H:Heap):ACall Tryz.prog 66 [.int .u64 (a:Int),.int .u64 (b:Int)] H (λy H'=>y= .int .u64 ((fminN a b:Nat):Int)∧H'=H):=by
  refine ACall.of_body Tryz.func66 rfl Tryz.ntmps66 Tryz.results66 rfl ?_;refine .sr ?_;refine .p rfl (pure_assign (ev_nat 0)) ?_;refine .ng ?_;refine .seq ?_;refine .sr ?_;refine .mv rfl rfl ?_;refine .mv rfl rfl ?_;refine .cl rfl Tryz.call141 (evs2 rfl rfl) (fCmp_calls a b ha hb _) ?_;refine .mv rfl rfl ?_;refine .p rfl (pure_extract (tm rfl) rfl) ?_;refine .p rfl (pure_extract (tm rfl) rfl) ?_;refine .as rfl rfl ?_;refine .as rfl rfl ?_;refine .ng ?_;refine .block ?_;refine .sr ?_;refine .mv rfl rfl ?_;refine .p rfl (pure_not (tm rfl)) ?_;refine .as rfl rfl ?_;refine .ng ?_;refine AWP.cond (tm rfl) (λhc13=>?_) (λhc13=>?_)
  · try simp only[decide_eq_true_eq,Bool.not_eq_true',Bool.not_eq_false']at hc13
    refine .sr ?_;refine .p rfl (pure_assign (ev_nat 9221120237041090560)) ?_;refine .ng ?_;refine .ret ?_;refine Block.rt ?_;refine Next.rt ?_;refine Ret.go (.cons (.tmp _ _ rfl) .nil) _ (Heap.le.refl _) ?_;refine⟨?_,rfl⟩;unfold fminN;rw[if_pos (show kindN a=4∨kindN b=4 by omega)];rfl
  try simp only[decide_eq_false_iff_not,Bool.not_eq_true',Bool.not_eq_false']at hc13
  refine .seq ?_;refine .sr ?_;refine .mv rfl rfl ?_;refine .p rfl (pure_lss (tm rfl) ev_int) ?_;refine .as rfl rfl ?_;refine .ng ?_;refine AWP.cond (tm rfl) (λhc16=>?_) (λhc16=>?_)
  · try simp only[decide_eq_true_eq]at hc16
    refine .skip ?_;refine Next.go ?_;refine AWP.cond_true (tm rfl) (decide_eq_true (by assumption)) ?_;refine .sr ?_;refine .mv rfl rfl ?_;refine .as rfl rfl ?_;refine .ng ?_;refine .ret ?_;refine Block.rt ?_;refine Next.rt ?_;refine Ret.go (.cons (.tmp _ _ rfl) .nil) _ (Heap.le.refl _) ?_;refine⟨?_,rfl⟩;unfold fminN;rw[if_neg (show¬(kindN a=4∨kindN b=4) by omega),if_pos (show minB a b by unfold minB;omega)];rfl
  try simp only[decide_eq_false_iff_not,Int.not_lt]at hc16
  refine .region ?_;refine .mv rfl rfl ?_;refine .p rfl (pure_eql (tm rfl) ev_int) ?_;refine .mv rfl rfl ?_;refine bool_casesL (t:=21) rfl (λhg21=>?_) (λhg21=>?_)
  · have hh21:=hg21;try simp only[decide_eq_true_eq]at hh21
    refine .gp rfl rfl rfl (by assumption) (pure_move (tm rfl)) ?_;refine .gp rfl rfl rfl (by assumption) (pure_shr64 (tm rfl) (ev_nat 63) (by assumption)) ?_;refine .gp rfl rfl rfl (by assumption) (pure_eql (tm rfl) (ev_nat 1)) ?_;refine .p rfl (pure_pickT (tm rfl) (by assumption) (tm rfl)) ?_;refine .as rfl rfl ?_;refine .ng ?_;refine AWP.cond (tm rfl) (λhc16=>?_) (λhc16=>?_)
    · try simp only[decide_eq_true_eq]at hc16
      refine .sr ?_;refine .mv rfl rfl ?_;refine .as rfl rfl ?_;refine .ng ?_;refine .ret ?_;refine Block.rt ?_;refine Next.rt ?_;refine Ret.go (.cons (.tmp _ _ rfl) .nil) _ (Heap.le.refl _) ?_;refine⟨?_,rfl⟩;unfold fminN;rw[if_neg (show¬(kindN a=4∨kindN b=4) by omega),if_pos (show minB a b by unfold minB;omega)];rfl
    try simp only[decide_eq_false_iff_not]at hc16
    refine .skip ?_;refine Block.go ?_;refine Next.go ?_;refine .sr ?_;refine .mv rfl rfl ?_;refine .as rfl rfl ?_;refine .ng ?_;refine .ret ?_;refine Ret.go (.cons (.tmp _ _ rfl) .nil) _ (Heap.le.refl _) ?_;refine⟨?_,rfl⟩;unfold fminN;rw[if_neg (show¬(kindN a=4∨kindN b=4) by omega),if_neg (show¬minB a b by unfold minB;omega)];rfl
  have hh21:=hg21;try simp only[decide_eq_false_iff_not]at hh21
  refine .gn rfl rfl rfl (by assumption) ?_;refine .gn rfl rfl rfl (by assumption) ?_;refine .gn rfl rfl rfl (by assumption) ?_;refine .p rfl (pure_pickF (tm rfl) (by assumption) ev_bool) ?_;refine .as rfl rfl ?_;refine .ng ?_;refine AWP.cond_false (tm rfl) (by rfl) ?_;refine .skip ?_;refine Block.go ?_;refine Next.go ?_;refine .sr ?_;refine .mv rfl rfl ?_;refine .as rfl rfl ?_;refine .ng ?_;refine .ret ?_;refine Ret.go (.cons (.tmp _ _ rfl) .nil) _ (Heap.le.refl _) ?_;refine⟨?_,rfl⟩;unfold fminN;rw[if_neg (show¬(kindN a=4∨kindN b=4) by omega),if_neg (show¬minB a b by unfold minB;omega)];rfl
theorem fMax_calls(a b:Nat)(ha:a<18446744073709551616)(hb:b<18446744073709551616)(H:Heap):ACall Tryz.prog 67 [.int .u64 (a:Int),.int .u64 (b:Int)] H (λy H'=>y= .int .u64 ((fmaxN a b:Nat):Int)∧H'=H):=by
  refine ACall.of_body Tryz.func67 rfl Tryz.ntmps67 Tryz.results67 rfl ?_;refine .sr ?_;refine .p rfl (pure_assign (ev_nat 0)) ?_;refine .ng ?_;refine .seq ?_;refine .sr ?_;refine .mv rfl rfl ?_;refine .mv rfl rfl ?_;refine .cl rfl Tryz.call141 (evs2 rfl rfl) (fCmp_calls a b ha hb _) ?_;refine .mv rfl rfl ?_;refine .p rfl (pure_extract (tm rfl) rfl) ?_;refine .p rfl (pure_extract (tm rfl) rfl) ?_;refine .as rfl rfl ?_;refine .as rfl rfl ?_;refine .ng ?_;refine .block ?_;refine .sr ?_;refine .mv rfl rfl ?_;refine .p rfl (pure_not (tm rfl)) ?_;refine .as rfl rfl ?_;refine .ng ?_;refine AWP.cond (tm rfl) (λhc13=>?_) (λhc13=>?_)
  · try simp only[decide_eq_true_eq,Bool.not_eq_true',Bool.not_eq_false']at hc13
    refine .sr ?_;refine .p rfl (pure_assign (ev_nat 9221120237041090560)) ?_;refine .ng ?_;refine .ret ?_;refine Block.rt ?_;refine Next.rt ?_;refine Ret.go (.cons (.tmp _ _ rfl) .nil) _ (Heap.le.refl _) ?_;refine⟨?_,rfl⟩;unfold fmaxN;rw[if_pos (show kindN a=4∨kindN b=4 by omega)];rfl
  try simp only[decide_eq_false_iff_not,Bool.not_eq_true',Bool.not_eq_false']at hc13
  refine .seq ?_;refine .sr ?_;refine .mv rfl rfl ?_;refine .p rfl (pure_gtr (tm rfl) ev_int) ?_;refine .as rfl rfl ?_;refine .ng ?_;refine AWP.cond (tm rfl) (λhc16=>?_) (λhc16=>?_)
  · try simp only[decide_eq_true_eq]at hc16
    refine .skip ?_;refine Next.go ?_;refine AWP.cond_true (tm rfl) (decide_eq_true (by assumption)) ?_;refine .sr ?_;refine .mv rfl rfl ?_;refine .as rfl rfl ?_;refine .ng ?_;refine .ret ?_;refine Block.rt ?_;refine Next.rt ?_;refine Ret.go (.cons (.tmp _ _ rfl) .nil) _ (Heap.le.refl _) ?_;refine⟨?_,rfl⟩;unfold fmaxN;rw[if_neg (show¬(kindN a=4∨kindN b=4) by omega),if_pos (show maxB a b by unfold maxB;omega)];rfl
  try simp only[decide_eq_false_iff_not,Int.not_lt]at hc16
  refine .region ?_;refine .mv rfl rfl ?_;refine .p rfl (pure_eql (tm rfl) ev_int) ?_;refine .mv rfl rfl ?_;refine bool_casesL (t:=21) rfl (λhg21=>?_) (λhg21=>?_)
  · have hh21:=hg21;try simp only[decide_eq_true_eq]at hh21
    refine .gp rfl rfl rfl (by assumption) (pure_move (tm rfl)) ?_;refine .gp rfl rfl rfl (by assumption) (pure_shr64 (tm rfl) (ev_nat 63) (by assumption)) ?_;refine .gp rfl rfl rfl (by assumption) (pure_eql (tm rfl) (ev_nat 0)) ?_;refine .p rfl (pure_pickT (tm rfl) (by assumption) (tm rfl)) ?_;refine .as rfl rfl ?_;refine .ng ?_;refine AWP.cond (tm rfl) (λhc16=>?_) (λhc16=>?_)
    · try simp only[decide_eq_true_eq]at hc16
      refine .sr ?_;refine .mv rfl rfl ?_;refine .as rfl rfl ?_;refine .ng ?_;refine .ret ?_;refine Block.rt ?_;refine Next.rt ?_;refine Ret.go (.cons (.tmp _ _ rfl) .nil) _ (Heap.le.refl _) ?_;refine⟨?_,rfl⟩;unfold fmaxN;rw[if_neg (show¬(kindN a=4∨kindN b=4) by omega),if_pos (show maxB a b by unfold maxB;omega)];rfl
    try simp only[decide_eq_false_iff_not]at hc16
    refine .skip ?_;refine Block.go ?_;refine Next.go ?_;refine .sr ?_;refine .mv rfl rfl ?_;refine .as rfl rfl ?_;refine .ng ?_;refine .ret ?_;refine Ret.go (.cons (.tmp _ _ rfl) .nil) _ (Heap.le.refl _) ?_;refine⟨?_,rfl⟩;unfold fmaxN;rw[if_neg (show¬(kindN a=4∨kindN b=4) by omega),if_neg (show¬maxB a b by unfold maxB;omega)];rfl
  have hh21:=hg21;try simp only[decide_eq_false_iff_not]at hh21
  refine .gn rfl rfl rfl (by assumption) ?_;refine .gn rfl rfl rfl (by assumption) ?_;refine .gn rfl rfl rfl (by assumption) ?_;refine .p rfl (pure_pickF (tm rfl) (by assumption) ev_bool) ?_;refine .as rfl rfl ?_;refine .ng ?_;refine AWP.cond_false (tm rfl) (by rfl) ?_;refine .skip ?_;refine Block.go ?_;refine Next.go ?_;refine .sr ?_;refine .mv rfl rfl ?_;refine .as rfl rfl ?_;refine .ng ?_;refine .ret ?_;refine Ret.go (.cons (.tmp _ _ rfl) .nil) _ (Heap.le.refl _) ?_;refine⟨?_,rfl⟩;unfold fmaxN;rw[if_neg (show¬(kindN a=4∨kindN b=4) by omega),if_neg (show¬maxB a b by unfold maxB;omega)];rfl
def sum_J(xs:List Nat)(tl:Tail)(H:Heap):Nat→Env→Heap→Prop:=λk env H1=>∃(i s:Nat),i≤xs.length∧s<18446744073709551616∧(xs.drop i).foldl faddN s=xs.foldl faddN 0∧env=[(3,.int .u64 (s:Int)),(6,.slice 1 (U .u64 xs) tl),(7,.int .i64 ((xs.length:Nat):Int)),(8,.int .i64 ((i:Nat):Int))]∧H=H1∧k=xs.length-i
theorem dropN_cons{xs:List Nat}{i:Nat}(h:i<xs.length):xs.drop i=xs.getD i 0::xs.drop (i+1):=by
  rw[List.drop_eq_getElem_cons h,List.getD_eq_getElem?_getD,List.getElem?_eq_getElem h];rfl
theorem Sum_calls(xs:List Nat)(tl:Tail)(hz:Bits xs)(hm:xs.length≤100000)(H:Heap):ACall Tryz.prog 60 [.slice 1 (U .u64 xs) tl] H (λy H'=>y= .int .u64 ((xs.foldl faddN 0:Nat):Int)∧H'=H):=by
  refine ACall.of_body Tryz.func60 rfl Tryz.ntmps60 Tryz.results60 rfl ?_;refine .sr ?_;refine .p rfl (pure_assign (ev_nat 0)) ?_;refine .nr ?_;refine .p rfl (pure_assign (ev_nat 0)) ?_;refine .ng ?_;refine .seq ?_;refine .sr ?_;refine .mv rfl rfl ?_;refine .p rfl (pure_lenU Tryz.underlying22 (tm rfl)) ?_;refine .p rfl (pure_move ev_int) ?_;refine .ng ?_;refine .block ?_;refine AWP.loopW (sum_J xs tl H) (xs.length) ⟨0,0,Nat.zero_le _,by decide,rfl,rfl,rfl,rfl⟩ (sub_c rfl (sub_c rfl (sub_c rfl (sub_c rfl sub_n)))) (Heap.le.refl _) ?_;rintro _ _ _ ⟨i,s,hi,hs,hf,rfl,rfl,hk⟩;refine .sr ?_;refine .p rfl (pure_lss (tm rfl) (tm rfl)) ?_;refine .ng ?_;refine .seq ?_;refine AWP.cond (tm rfl) (λhc9=>?_) (λhc9=>?_)
  · try simp only[decide_eq_true_eq]at hc9
    have hi2:i<xs.length:=by omega
    rw[dropN_cons hi2,List.foldl_cons]at hf;refine .skip ?_;refine Next.go ?_;refine .seq ?_;refine .block ?_;refine .sr ?_;refine .p rfl (pure_indexU (i) Tryz.underlying22 Tryz.sizeOf25 (tm rfl) (tm rfl) (by omega) (by omega)) ?_;refine .p rfl (pure_load1 Tryz.isAgg25 (tm rfl)) ?_;refine .as rfl rfl ?_;refine .ng ?_;refine .region ?_;refine .mv rfl rfl ?_;refine .mv rfl rfl ?_;refine .cl rfl Tryz.call61 (evs2 rfl rfl) (fAdd_calls _ _ hs (hz.getD i) _) ?_;refine .as rfl rfl ?_;refine .nil ?_;refine Block.go ?_;refine Next.go ?_;refine .region ?_;refine .p rfl (pure_add (tm rfl) ev_int (by omega)) ?_;refine .mv rfl rfl ?_;refine .ng ?_;refine Round.mk (J:=sum_J xs tl H) ⟨i+1,_,by omega,fadd_lt hs (hz.getD i),hf,rfl,rfl,rfl⟩ (sub_c rfl (sub_c rfl (sub_c rfl (sub_c rfl sub_n)))) (Heap.le.refl _) (by omega)
  try simp only[decide_eq_false_iff_not,Int.not_lt]at hc9
  refine .exit ?_;refine Next.ex ?_;refine Next.ex ?_;refine Block.hit ?_;refine Next.go ?_;refine .sr ?_;refine .mv rfl rfl ?_;refine .as rfl rfl ?_;refine .ng ?_;refine .ret ?_;refine Ret.go (.cons (.tmp _ _ rfl) .nil) _ (Heap.le.refl _) ?_;rw[List.drop_eq_nil_of_le (by omega)]at hf;refine⟨?_,rfl⟩;rw[←hf];rfl
def fromI(v:Int):Nat:=roundN (decide (v<0)) v.natAbs 0 false
theorem from_lt(v:Int):fromI v<18446744073709551616:=roundN_lt _ _ _ _
theorem neg_wrapI{v:Int}(h1: -9223372036854775808≤v)(h2:v<0):IntKind.u64.wrap (0-(IntKind.u64.wrap v))=((v.natAbs:Nat):Int):=by
  simp only[IntKind.wrap,IntKind.bits,IntKind.signed];simp;omega
theorem sizeI_calls(v:Int)(h1: -9223372036854775808≤v)(h2:v≤9223372036854775807)(H:Heap):ACall Tryz.prog 137 [.int .i64 v] H (λy H'=>y= .int .u64 ((v.natAbs:Nat):Int)∧H'=H):=by
  refine ACall.of_body Tryz.func137 rfl Tryz.ntmps137 Tryz.results137 rfl ?_;refine .sr ?_;refine .p rfl (pure_assign ev_int) ?_;refine .ng ?_;refine .seq ?_;refine .sr ?_;refine .mv rfl rfl ?_;refine .p rfl (pure_lss (tm rfl) ev_int) ?_;refine .ng ?_;refine AWP.cond (tm rfl) (λhc4=>?_) (λhc4=>?_)
  · try simp only[decide_eq_true_eq]at hc4
    refine .sr ?_;refine .mv rfl rfl ?_;refine .p rfl (pure_convW Tryz.underlying3 Tryz.underlying25 (tm rfl)) ?_;refine .p rfl (pure_negW (tm rfl)) ?_;refine .as rfl rfl ?_;refine .ng ?_;refine .ret ?_;refine Next.rt ?_;refine Ret.go (.cons (.tmp _ _ rfl) .nil) _ (Heap.le.refl _) ?_;refine⟨?_,rfl⟩;show AV.int .u64 _=_;rw[neg_wrapI h1 hc4]
  try simp only[decide_eq_false_iff_not,Int.not_lt]at hc4
  refine .skip ?_;refine Next.go ?_;refine .sr ?_;refine .mv rfl rfl ?_;refine .p rfl (pure_convW Tryz.underlying3 Tryz.underlying25 (tm rfl)) ?_;refine .as rfl rfl ?_;refine .ng ?_;refine .ret ?_;refine Ret.go (.cons (.tmp _ _ rfl) .nil) _ (Heap.le.refl _) ?_;refine⟨?_,rfl⟩;show AV.int .u64 _=_;congr 1;simp only[IntKind.wrap,IntKind.bits,IntKind.signed];simp;omega
theorem FromI_calls(v:Int)(h1: -9223372036854775808≤v)(h2:v≤9223372036854775807)(H:Heap):ACall Tryz.prog 64 [.int .i64 v] H (λy H'=>y= .int .u64 ((fromI v:Nat):Int)∧H'=H):=by
  refine ACall.of_body Tryz.func64 rfl Tryz.ntmps64 Tryz.results64 rfl ?_;refine .sr ?_;refine .p rfl (pure_assign (ev_nat 0)) ?_;refine .nr ?_;refine .mv rfl rfl ?_;refine .p rfl (pure_lss (tm rfl) ev_int) ?_;refine .mv rfl rfl ?_;refine .cl rfl Tryz.call137 (evs1 rfl) (sizeI_calls v h1 h2 _) ?_;refine .p rfl (pure_bd zr91 pl91 (.cons (tm rfl) (.inl rfl) .nil)) ?_;refine .cl rfl Tryz.call129 (.cons (tm rfl) (.cons (tm rfl) (.cons ev_int (.cons ev_bool .nil)))) ((by have hm:v.natAbs<M1:=(by show _<18446744073709551616;omega);have h:=λH=>Join_calls (decide (v<0)) v.natAbs (Nat.lt_trans hm (by decide+kernel)) 0 (by decide) false H;rw[u2_low hm]at h;exact h _)) ?_;refine .as rfl rfl ?_;refine .ng ?_;refine .ret ?_;refine Ret.go (.cons (.tmp _ _ rfl) .nil) _ (Heap.le.refl _) ?_;exact⟨rfl,rfl⟩
theorem w64_calls(v:Int)(h1: -9223372036854775808≤v)(h2:v≤9223372036854775807)(H:Heap):ACall Tryz.prog 74 [.int .i64 v] H (λy H'=>y=(NumV (fromI v)).av∧H'=H):=by
  have hfl:=from_lt v;refine ACall.of_body Tryz.func74 rfl Tryz.ntmps74 Tryz.results74 rfl ?_;refine .sr ?_;refine .s rfl (step_al zr27) ?_;rintro _ _ ⟨b2,hb2,rfl,hH⟩;obtain rfl:=hH.symm;refine .nr ?_;refine .mv rfl rfl ?_;refine .cl rfl Tryz.call64 (evs1 rfl) (FromI_calls _ (by omega) (by omega) _) ?_;refine .cl rfl Tryz.call43 (evs1 rfl) (vNumber_calls _ (by assumption) _) ?_;refine .e0 (step_store Tryz.sizeOf27 (tm rfl) (tm rfl) rfl rfl (.inr ⟨_,rfl⟩) (Heap.objs_set_same _ _ _) (Nat.le_of_ble_eq_true rfl)) ?_;try first|rw[Heap.set_set]|rw[Heap.set_under (by assumption)]
  refine .ng ?_;refine AWP.frz (t:=2) rfl (hb2) ?_;refine .ret ?_;refine Ret.go (.cons (.cellI _ _ _ _ rfl Tryz.isAgg27 Tryz.sizeOf27 rfl) .nil) _ (Heap.le.refl _) ?_;exact⟨rfl,rfl⟩
def gcdI:Nat→Nat→Nat→Nat
  |0,a,_=>a
  |k+1,a,b=>if b=0 then a else gcdI k b (a%b)
def gcd_J(a b:Nat)(H:Heap):Nat→Env→Heap→Prop:=λk env H1=>∃(x y:Nat),x≤9007199254740992∧y≤9007199254740992∧gcdI y x y=gcdI b a b∧(0<b→0<x+y)∧(0<a→0<x+y)∧env=[(0,.int .i64 ((x:Nat):Int)),(1,.int .i64 ((y:Nat):Int))]∧H=H1∧k=y
theorem gcd_fuel:∀(k a b:Nat),b≤k→gcdI k a b=gcdI b a b
  |k,a,0,_=>by cases k<;>rfl
  |k+1,a,b+1,h=>by
    have hm:=Nat.mod_lt a (show 0<b+1 by omega);rw[gcdI,gcdI,if_neg (by omega),if_neg (by omega),gcd_fuel k (b+1) (a%(b+1)) (by omega),gcd_fuel b (b+1) (a%(b+1)) (by omega)]
theorem gcd_next{x y:Nat}(h:0<y):gcdI (x%y) y (x%y)=gcdI y x y:=by
  obtain⟨q,rfl⟩:∃q,y=q+1:=⟨y-1,by omega⟩;have hm:=Nat.mod_lt x (show 0<q+1 by omega);rw[gcdI.eq_2,if_neg (by omega),gcd_fuel q (q+1) (x%(q+1)) (by omega)]
theorem gcd_calls(a b:Nat)(ha:a≤9007199254740992)(hb:b≤9007199254740992)(H:Heap):ACall Tryz.prog 73 [.int .i64 ((a:Nat):Int),.int .i64 ((b:Nat):Int)] H (λy H'=>(y= .int .i64 ((gcdI b a b:Nat):Int)∧gcdI b a b≤9007199254740992∧(0<a∨0<b→0<gcdI b a b))∧H'=H):=by
  refine ACall.of_body Tryz.func73 rfl Tryz.ntmps73 Tryz.results73 rfl ?_;refine .sr ?_;refine .p rfl (pure_assign (ev_nat 0)) ?_;refine .ng ?_;refine .seq ?_;refine .block ?_;refine AWP.loopW (gcd_J a b H) (b) ⟨a,b,ha,hb,rfl,by omega,by omega,rfl,rfl,rfl⟩ (sub_c rfl (sub_c rfl sub_n)) (Heap.le.refl _) ?_;rintro _ _ _ ⟨x,y,hx,hy,hg,hp1,hp2,rfl,rfl,hk⟩;refine .seq ?_;refine .sr ?_;refine .mv rfl rfl ?_;refine .p rfl (pure_gtr (tm rfl) (ev_nat 0)) ?_;refine .ng ?_;refine AWP.cond (tm rfl) (λhc6=>?_) (λhc6=>?_)
  · try simp only[decide_eq_true_eq]at hc6
    have hy0:0<y:=by omega
    have hml:=Nat.mod_lt x hy0;refine .skip ?_;refine Next.go ?_;refine .block ?_;refine AWP.draw [(0,true),(1,true),(2,true),(3,true),(4,true),(5,true)] rfl (by decide+kernel) ?_;refine .p rfl rfl (pure_move (tm rfl)) ?_;refine .p rfl rfl (pure_move (tm rfl)) ?_;refine .p rfl rfl (pure_move (tm rfl)) ?_;refine .p rfl rfl (.as (b:=.int .i64 ((x%y:Nat):Int)) (by rfl) (pure_rem (tm rfl) (tm rfl) (by omega))) ?_;refine .p rfl rfl (pure_assign (tm rfl)) ?_;refine .p rfl rfl (pure_assign (tm rfl)) ?_;refine .nil ?_;refine Block.go ?_;refine Next.go ?_;refine Round.mk (J:=gcd_J a b H) ⟨y,x%y,hy,by omega,(gcd_next hy0).trans hg,by omega,by omega,rfl,rfl,rfl⟩ (sub_c rfl (sub_c rfl sub_n)) (Heap.le.refl _) (by omega)
  try simp only[decide_eq_false_iff_not,Int.not_lt]at hc6
  refine .exit ?_;refine Next.ex ?_;refine Next.ex ?_;refine Block.hit ?_;refine Next.go ?_;refine .sr ?_;refine .mv rfl rfl ?_;refine .as rfl rfl ?_;refine .ng ?_;refine .ret ?_;refine Ret.go (.cons (.tmp _ _ rfl) .nil) _ (Heap.le.refl _) ?_;have hy0:y=0:=by omega
  subst hy0;have hg2:x=gcdI b a b:=hg;exact⟨⟨by rw[←hg2];rfl,by omega,by omega⟩,rfl⟩
end Go.Proofs.YtojblnldfdeefaaGreatDoor
