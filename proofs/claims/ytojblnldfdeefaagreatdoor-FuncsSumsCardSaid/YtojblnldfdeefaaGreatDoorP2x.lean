/-
  The program's numbers of 128 and 192 bits: shifts.
-/
import Derived.Test.YtojblnldfdeefaaGreatDoorP1x
import Derived.Test.YtojblnldfdeefaaGreatDoorSsk
import Derived.Shelf.Spec.BitsCarry
set_option maxHeartbeats 1000000
namespace Go.Proofs.YtojblnldfdeefaaGreatDoor
open Go Go.RowKit
set_option maxRecDepth 100000
theorem eqIn3(d:Nat)(a b c a2 b2 c2:Int)(w:World):(Op.equalIn (d+2) 292 (.agg #[.int .u64 a,.int .u64 b,.int .u64 c]) (.agg #[.int .u64 a2,.int .u64 b2,.int .u64 c2])).run Tryz.prog w= .ok (decide (a=a2∧b=b2∧c=c2)) w:=by
  have u3:=Tryz.underlying25;have a3:=Tryz.isAgg25;have z3:=Tryz.sizeOf25;have hS:Tryz.prog.underlying 292=some (.struct (Tryz.prog.fieldsOf 292)):=by kernel_rfl
  have hp:Tryz.prog.stoodInHeld 292=false:=by kernel_rfl
  rw[run_equalIn_agg w (d+1) 292 _ _ hS hp];simp only[Program.fieldsOf,Tryz.underlying292]
  go_simp
  by_cases h1:a=a2<;>by_cases h2:b=b2<;>by_cases h3:c=c2<;>simp[h1,h2,h3]
theorem eq3(a b c a2 b2 c2:Int):EqCells Tryz.prog 292 [.int .u64 a,.int .u64 b,.int .u64 c] [.int .u64 a2,.int .u64 b2,.int .u64 c2] (decide (a=a2∧b=b2∧c=c2)):=λg xs ys w h k=>by
  rw[h.plain [.int .u64 a,.int .u64 b,.int .u64 c] rfl,k.plain [.int .u64 a2,.int .u64 b2,.int .u64 c2] rfl];exact eqIn3 9998 a b c a2 b2 c2 w
section
variable{P:Program}{env:Env}{dst:Option Tmp}{ty:TypeId}{pos:String}{af:Array Edge}{gd:Option (Nat×Bool)}
theorem APure.as{op:Oper}{a b:AV}(h:a=b)(p:APure P op env a):APure P op env b:=h▸p
end
theorem wShl_calls(v:Nat)(n:Nat)(hn:n<64)(q:Int)(hq:q=(n:Int))(H:Heap):ACall Tryz.prog 148 [u2 v,.int .i64 q] H (λy H'=>y=u2 (v*2^n%M2)∧H'=H):=by
  subst hq;have hh:=l2_lt v;have hb1:v%M1/2^(64-n)<18446744073709551616:=Nat.lt_of_le_of_lt (Nat.div_le_self _ _) (l2_lt v);have hb2:v/M1*2^n%18446744073709551616<18446744073709551616:=Nat.mod_lt _ (by decide);have hor:(v/M1*2^n%18446744073709551616|||v%M1/2^(64-n))=v/M1*2^n%M1+v%M1/2^(64-n):=or_up (down_lt v (Nat.le_of_lt hn)) (Nat.le_of_lt hn);refine ACall.of_body Tryz.func148 rfl Tryz.ntmps148 Tryz.results148 rfl ?_;iterate 3 refine AX ?_
  refine .al zr91 (λb4 hb4=>?_);iterate 11 refine AX ?_
  rw[show imax (n:Int) 0=(n:Int) by simp only[imax];split<;>omega];iterate 5 refine AX ?_
  refine AWP.cond_false (tm rfl) (by exact decide_eq_false (by omega)) ?_;iterate 3 refine AX ?_
  refine AWP.draw [(0,true),(1,true),(2,true),(3,true),(4,true),(5,true),(6,true),(7,true),(8,true),(9,true),(10,true),(11,true),(12,true),(13,true),(14,true),(15,false)] rfl (by decide+kernel) ?_;refine .p rfl rfl (pure_fieldI Tryz.underlying91 rfl Tryz.sizeOf25 (tm rfl)) ?_;iterate 3 refine AX ?_
  refine .p rfl rfl (pure_fieldI Tryz.underlying91 rfl Tryz.sizeOf25 (tm rfl)) ?_;iterate 2 refine AX ?_
  refine .p rfl rfl (.as (b:=.int .i64 ((64-n:Nat):Int)) (by congr 1;omega) (pure_sub ev_int (tm rfl) (by omega))) ?_;iterate 2 refine AX ?_
  refine .p rfl rfl (pure_fieldI Tryz.underlying91 rfl Tryz.sizeOf25 (tm rfl)) ?_;iterate 3 refine AX ?_
  refine .p rfl rfl (pure_bd zr91 pl91 (.cons (tm rfl) (.inl rfl) (.cons (tm rfl) (.inl rfl) .nil)) rfl) ?_;refine .s0 rfl (step_store Tryz.sizeOf91 (tm rfl) (tm rfl) rfl rfl (.inr ⟨_,rfl⟩) (Heap.objs_set_same _ _ _) (Nat.le_of_ble_eq_true rfl)) ?_;rintro _ _ ⟨rfl,hH⟩;obtain rfl:=hH.symm;try first|rw[Heap.set_set]|rw[Heap.set_under (by assumption)]
  iterate 2 refine AX ?_
  refine AWP.frz (t:=4) rfl (hb4) ?_;iterate 2 refine AX ?_
  refine⟨?_,rfl⟩;simp only[packed,u2,w2];rw[shl_hi (Nat.le_of_lt hn),shl_lo,←hor];rfl
def drop_J(v n b2 b4:Nat)(H:Heap):Nat→Env→Heap→Prop:=λk env H1=>∃j:Nat,64*j≤n∧env=[(1,.int .i64 ((n-64*j:Nat):Int)),(2,.ptr (some ⟨b2,0,none⟩)),(4,.ptr (some ⟨b4,0,none⟩)),(6,.bool (decide (v%2^(64*j)≠0)))]∧H1=(H.set b2 (.box 292 [.int .u64 (((v/2^(64*j))/M2:Nat):Int),.int .u64 (((v/2^(64*j))/M1%M1:Nat):Int),.int .u64 (((v/2^(64*j))%M1:Nat):Int)])).set b4 (.box 292 [.int .u64 0,.int .u64 0,.int .u64 0])∧k=n-64*j
theorem wDrop_calls(v:Nat)(hv:v<M3)(n:Nat)(hn:n≤1000000000)(q:Int)(hq:q=(n:Int))(H:Heap):ACall Tryz.prog 274 [u3 v,.int .i64 q] H (λy H'=>y= .tuple [u3 (v/2^n),.bool (decide (v%2^n≠0))]∧H'=H):=by
  subst hq;refine ACall.of_body Tryz.func274 rfl Tryz.ntmps274 Tryz.results274 rfl ?_;iterate 2 refine AX ?_
  refine .s rfl (step_box (tm rfl) (.inr ⟨_,rfl⟩)) ?_;rintro _ _ ⟨b2,hb2,rfl,hH⟩;obtain rfl:=hH.symm;refine .al zr292 (λb4 hb4=>?_);have hn2_4:=Heap.ne_of (Heap.objs_set_same _ _ _) hb4;iterate 11 refine AX ?_
  rw[show imax (n:Int) 0=(n:Int) by simp only[imax];split<;>omega];iterate 6 refine AX ?_
  rw[show(u3 v).cells=[.int .u64 ((v/2^(64*0)/M2:Nat):Int),.int .u64 ((v/2^(64*0)/M1%M1:Nat):Int),.int .u64 ((v/2^(64*0)%M1:Nat):Int)] by rw[show v/2^(64*0)=v by simp];rfl];refine AWP.loopW (drop_J v n b2 b4 H) (n) ⟨0,by omega,rfl,rfl,rfl⟩ (sub_c rfl (sub_c rfl (sub_c rfl (sub_e rfl (by simp[Nat.mod_one]) sub_n)))) (Heap.le.refl _) ?_;rintro _ _ _ ⟨j,hj,rfl,rfl,hk⟩;have hvj:(v/2^(64*j))<M3:=Nat.lt_of_le_of_lt (Nat.div_le_self _ _) hv;refine AX ?_;refine AWP.seqTo 15 (.bool (decide ((64:Int)≤((n-64*j:Nat):Int))&& !decide ((v/2^(64*j))=0))) [1,2,4,6] ?_ ?_
  · iterate 4 refine AX ?_
    refine bool_casesL (t:=11) rfl (λhg11=>?_) (λhg11=>?_)
    · have hh11:=hg11;try simp only[decide_eq_true_eq]at hh11
      refine .gs rfl rfl rfl (by assumption) (step_loadN Tryz.isAgg292 Tryz.sizeOf292 (tm rfl) ((Heap.objs_set_ne _ _ (by assumption)).trans (Heap.objs_set_same _ _ _)) (Nat.le_of_ble_eq_true rfl)) ?_;rintro _ _ ⟨rfl,hH⟩;obtain rfl:=hH.symm;refine .gp rfl rfl rfl (by assumption) (pure_bd zr292 pl292 .nil rfl) ?_;refine .gp rfl rfl rfl (by assumption) (pure_neqA Tryz.eqGuardType292 (tm rfl) (tm rfl) (eq3 _ _ _ _ _ _)) ?_;iterate 2 refine AX ?_
      exact⟨rfl,sub_b rfl (by(rw[show decide ((64:Int)≤((n-64*j:Nat):Int))=true from hg11,Bool.true_and];congr 1;exact decide_eq_decide.2 (u3_zero hvj))) sX,rfl⟩
    have hh11:=hg11;try simp only[decide_eq_false_iff_not,Int.not_le]at hh11
    iterate 5 refine AX ?_
    exact⟨rfl,sub_b rfl (by(rw[show decide ((64:Int)≤((n-64*j:Nat):Int))=false from hg11];rfl)) sX,rfl⟩
  refine AWP.sub [(15,_),(1,_),(2,_),(4,_),(6,_)] sX ?_;refine AWP.cx rfl (λhc15=>?_) (λhc15=>?_)
  · simp only[Bool.and_eq_true,Bool.not_eq_true',decide_eq_true_eq,decide_eq_false_iff_not]at hc15;iterate 3 refine AX ?_
    refine AWP.seqTo 6 (.bool (decide (v%2^(64*(j+1))≠0))) [1,2,4] ?_ ?_
    · iterate 3 refine AX ?_
      refine bool_casesL (t:=17) rfl (λhg17=>?_) (λhg17=>?_)
      · have hh17:=hg17;try simp only[decide_eq_true_eq,ne_eq]at hh17
        iterate 6 refine AX ?_
        exact⟨rfl,sub_b rfl (by(have q:=lost64_t hg17;exact q)) sX,rfl⟩
      have hh17:=hg17;try simp only[decide_eq_false_iff_not,ne_eq,Decidable.not_not]at hh17
      refine .gp rfl rfl rfl (by assumption) (pure_field Tryz.underlying292 rfl Tryz.sizeOf25 (tm rfl)) ?_;refine .gs rfl rfl rfl (by assumption) (step_load1 Tryz.isAgg25 (tm rfl) ((Heap.objs_set_ne _ _ (by assumption)).trans (Heap.objs_set_same _ _ _)) rfl) ?_;rintro _ _ ⟨rfl,hH⟩;obtain rfl:=hH.symm;iterate 4 refine AM ?_
      exact⟨rfl,sub_b rfl (by(have q:=lost64_f hg17;exact q)) sX,rfl⟩
    refine AWP.sub [(6,_),(1,_),(2,_),(4,_)] sX ?_;iterate 2 refine AX ?_
    refine .p rfl (pure_field Tryz.underlying292 rfl Tryz.sizeOf25 (tm rfl)) ?_;refine AX ?_;refine .p rfl (pure_field Tryz.underlying292 rfl Tryz.sizeOf25 (tm rfl)) ?_;refine AX ?_;refine .p rfl (pure_bd zr292 pl292 (.cons (ev_nat 0) (.inl rfl) (.cons (tm rfl) (.inl rfl) (.cons (tm rfl) (.inl rfl) .nil))) rfl) ?_;iterate 5 refine AX ?_
    refine .p rfl (.as (b:=.int .i64 ((n-64*(j+1):Nat):Int)) (by congr 1;omega) (pure_sub (tm rfl) ev_int (by omega))) ?_;iterate 4 refine AX ?_
    have hd64:=div_64 hvj;have hvn:v/2^(64*(j+1))=(v/2^(64*j))/M1:=by rw[M1_two,Nat.div_div_eq_div_mul,←Nat.pow_add];congr 1
    refine Round.mk (J:=drop_J v n b2 b4 H) ⟨j+1,by omega,rfl,rfl,rfl⟩ sX (by rw[hvn,hd64.1,hd64.2];exact Heap.le.refl _) (by omega)
  simp only[Bool.and_eq_false_iff,Bool.not_eq_false',decide_eq_true_eq,decide_eq_false_iff_not]at hc15;iterate 9 refine AX ?_
  refine .p rfl (pure_bd zr292 pl292 .nil rfl) ?_;refine .p rfl (pure_eqlA Tryz.eqGuardType292 (tm rfl) (tm rfl) (eq3 _ _ _ _ _ _)) ?_;iterate 2 refine AX ?_
  refine AWP.cx rfl (λhc31=>?_) (λhc31=>?_)
  · iterate 8 refine AX ?_
    refine AWP.frz (t:=4) rfl (Heap.fresh_set hb4 _) ?_;refine AWP.dropb (hb2) ?_;iterate 3 refine AX ?_
    refine⟨?_,rfl⟩;have hv0:(v/2^(64*j))=0:=(u3_zero hvj).1 (by simpa using hc31);have hlt:v<2^(64*j):=by rcases Nat.div_eq_zero_iff.1 hv0 with h|h;exact absurd h (Nat.ne_of_gt (Nat.pow_pos (by decide)));exact h
    have hpn:v<2^n:=Nat.lt_of_lt_of_le hlt (Nat.pow_le_pow_right (by decide) hj);rw[Nat.mod_eq_of_lt hlt,Nat.mod_eq_of_lt hpn,Nat.div_eq_of_lt hpn,hv0];rfl
  have hv1:¬(v/2^(64*j))=0:=λh=>hc31 ((u3_zero hvj).2 h);have hk64:n-64*j<64:=by omega
  clear hv1;have hr1:(v/2^(64*j))%M1<18446744073709551616:=l2_lt _;have hr2:(v/2^(64*j))/M1%M1<18446744073709551616:=l2_lt _;have hr3:(v/2^(64*j))/M2<18446744073709551616:=hi_lt3 hvj;have hr4:(v/2^(64*j))%M1/2^(n-64*j)<18446744073709551616:=Nat.lt_of_le_of_lt (Nat.div_le_self _ _) hr1;have hr5:(v/2^(64*j))/M1%M1/2^(n-64*j)<18446744073709551616:=Nat.lt_of_le_of_lt (Nat.div_le_self _ _) hr2;have hr6:1*2^(n-64*j)-1<18446744073709551616:=Nat.lt_of_le_of_lt (Nat.sub_le _ _) (shl_one64 hk64);rw[Heap.set_comm hn2_4];refine AWP.frz (t:=2) rfl ((Heap.objs_set_ne _ _ hn2_4).trans hb2) ?_;have hb4:=(Heap.objs_set_ne H _ hn2_4.symm).symm.trans hb4;iterate 2 refine AX ?_
  refine AWP.seqTo 6 (.bool (decide (v%2^n≠0))) [1,2,4] ?_ ?_
  · refine AWP.draw [(0,true),(1,true),(2,true),(3,true),(4,true),(5,true),(6,true),(7,true),(8,true),(9,true),(10,true)] rfl (by decide+kernel) ?_;iterate 2 refine AX ?_
    refine bool_casesP (t:=35) rfl (λhg35=>?_) (λhg35=>?_)
    · have hh35:=hg35;try simp only[decide_eq_true_eq,ne_eq]at hh35
      iterate 10 refine AX ?_
      exact⟨rfl,sub_b rfl (by(have q:=lostk_t hj hg35;exact q)) sX,rfl⟩
    have hh35:=hg35;try simp only[decide_eq_false_iff_not,ne_eq,Decidable.not_not]at hh35
    refine .gp rfl rfl rfl rfl (by assumption) (pure_fieldI Tryz.underlying292 rfl Tryz.sizeOf25 (tm rfl)) ?_;iterate 2 refine AX ?_
    refine .gp rfl rfl rfl rfl (by assumption) (pure_shlX64 (ev_nat 1) (tm rfl) (by omega) (by exact shl_one64 hk64)) ?_;refine .gp rfl rfl rfl rfl (by assumption) (pure_subX64 (tm rfl) (ev_nat 1) (one_le_shl _) (by(exact Nat.lt_of_lt_of_le (shl_one64 hk64) (by decide)))) ?_;refine .gp rfl rfl rfl rfl (by assumption) (pure_and64 (tm rfl) (tm rfl) (by assumption) (by assumption)) ?_;iterate 4 refine AM ?_
    exact⟨rfl,sub_b rfl (by(have q:=lostk_f hj (by omega) hg35;exact q)) sX,rfl⟩
  refine AWP.sub [(6,_),(1,_),(2,_),(4,_)] sX ?_;refine AX ?_;refine AWP.draw [(0,true),(1,true),(2,true),(3,true),(4,true),(5,true),(6,true),(7,true),(8,true),(9,true),(10,true),(11,true),(12,true),(13,true),(14,true),(15,true),(16,true),(17,true),(18,true),(19,true),(20,true),(21,true),(22,true),(23,true),(24,true),(25,true),(26,false),(27,true)] rfl (by decide+kernel) ?_;refine .p rfl rfl (pure_fieldI Tryz.underlying292 rfl Tryz.sizeOf25 (tm rfl)) ?_;iterate 3 refine AX ?_
  refine .p rfl rfl (pure_fieldI Tryz.underlying292 rfl Tryz.sizeOf25 (tm rfl)) ?_;iterate 3 refine AX ?_
  refine .p rfl rfl (pure_fieldI Tryz.underlying292 rfl Tryz.sizeOf25 (tm rfl)) ?_;iterate 2 refine AX ?_
  refine .p rfl rfl (.as (b:=.int .i64 ((64-(n-64*j):Nat):Int)) (by congr 1;omega) (pure_sub ev_int (tm rfl) (by omega))) ?_;iterate 2 refine AX ?_
  refine .p rfl rfl (pure_fieldI Tryz.underlying292 rfl Tryz.sizeOf25 (tm rfl)) ?_;iterate 3 refine AX ?_
  refine .p rfl rfl (pure_fieldI Tryz.underlying292 rfl Tryz.sizeOf25 (tm rfl)) ?_;iterate 2 refine AX ?_
  refine .p rfl rfl (.as (b:=.int .i64 ((64-(n-64*j):Nat):Int)) (by congr 1;omega) (pure_sub ev_int (tm rfl) (by omega))) ?_;iterate 2 refine AX ?_
  refine .p rfl rfl (pure_bd zr292 pl292 (.cons (tm rfl) (.inl rfl) (.cons (tm rfl) (.inl rfl) (.cons (tm rfl) (.inl rfl) .nil))) rfl) ?_;refine AX ?_;refine .s0 rfl (step_store Tryz.sizeOf292 (tm rfl) (tm rfl) rfl rfl (.inr ⟨_,rfl⟩) (Heap.objs_set_same _ _ _) (Nat.le_of_ble_eq_true rfl)) ?_;rintro _ _ ⟨rfl,hH⟩;obtain rfl:=hH.symm;try first|rw[Heap.set_set]|rw[Heap.set_under (by assumption)]
  iterate 3 refine AX ?_
  refine AWP.frz (t:=4) rfl (hb4) ?_;iterate 2 refine AX ?_
  refine⟨?_,rfl⟩;have hvn2:v/2^n=(v/2^(64*j))/2^(n-64*j):=by rw[Nat.div_div_eq_div_mul,←Nat.pow_add,show 64*j+(n-64*j)=n by omega]
  rw[hvn2];unfold u3;rw[drop_hi (v/2^(64*j)) (n-64*j),drop_mid (v:=(v/2^(64*j))) (k:=n-64*j) (by omega),drop_lo (v:=(v/2^(64*j))) (k:=n-64*j) (by omega)];rfl
end Go.Proofs.YtojblnldfdeefaaGreatDoor
namespace Go.Proofs.YtojblnldfdeefaaGreatDoor
open Go Go.RowKit
set_option maxRecDepth 100000
section
variable{P:Program}{n:Fr}{ops:Array Oper}{Q:Exit→Env→Heap→Prop}{l:List Oper}{env:Env}{H:Heap}{ty:TypeId}{pos:String}{af:Array Edge}
theorem AList.ext{d:Tmp}{f:FuncId}{e:Array Value→Sem Value}{os:Array Operand}{xs:List AV}{ts:Array TypeId}{r:AV}(hd:Nat.blt d n.size=true)(he:IsExt P f e)(ha:Evs env os.toList xs)
    (h:∀g vs w,RelVs g xs vs→∃v,(e vs.toArray).run P w= .ok v w∧RelV g r v)(k:AList P n ops Q l ((d,r)::env) H):AList P n ops Q (⟨some d,.call {callee:=.value (.func f),args:=os,argTypes:=ts},ty,pos,af,none⟩::l) env H:=by
  have q:=step_ext (H:=H) (dst:=some d) (ty:=ty) (pos:=pos) (af:=af) (gd:=none) (ts:=ts) he ha h;refine .s hd q ?_;rintro _ _ ⟨rfl,hH⟩;obtain rfl:=hH.symm;exact k
end
theorem ext_add64z{x y:Nat}:∀g vs w,RelVs g [.int .u64 (x:Int),.int .u64 (y:Int),.int .u64 ((0:Nat):Int)] vs→∃v,(add64Entry vs.toArray).run Tryz.prog w= .ok v w∧RelV g (.tuple [.int .u64 (((x+y)%18446744073709551616:Nat):Int),.int .u64 (((x+y)/18446744073709551616:Nat):Int)]) v:=by
  have:=@ext_add64 x y 0 (by decide);rw[Nat.add_zero]at this;exact this
theorem wShr_calls(v:Nat)(hv:v<M2)(n:Nat)(hn:n≤1000000000)(q:Int)(hq:q=(n:Int))(H:Heap):ACall Tryz.prog 203 [u2 v,.int .i64 q] H (λy H'=>y= .tuple [u2 (v/2^n),.bool (decide (v%2^n≠0))]∧H'=H):=by
  refine ACall.of_body Tryz.func203 rfl Tryz.ntmps203 Tryz.results203 rfl ?_;iterate 3 refine AX ?_
  refine .al zr91 (λb4 hb4=>?_);iterate 5 refine AX ?_
  refine .p rfl (pure_fieldI Tryz.underlying91 rfl Tryz.sizeOf25 (tm rfl)) ?_;refine AX ?_;refine .p rfl (pure_fieldI Tryz.underlying91 rfl Tryz.sizeOf25 (tm rfl)) ?_;refine AX ?_;refine .p rfl (pure_bd zr292 pl292 (.cons (ev_nat 0) (.inl rfl) (.cons (tm rfl) (.inl rfl) (.cons (tm rfl) (.inl rfl) .nil))) rfl) ?_;refine AX ?_;refine .cl rfl Tryz.call274 (evs2 rfl rfl) ((by have:=wDrop_calls v (Nat.lt_trans hv (by decide+kernel)) n hn q hq;rw[u3_of2 hv]at this;exact this _)) ?_;iterate 3 refine AX ?_
  refine .al zr292 (λb6 hb6=>?_);have hn4_6:=Heap.ne_of (Heap.objs_set_same _ _ _) hb6;iterate 4 refine AX ?_
  refine AWP.frz (t:=6) rfl (hb6) ?_;iterate 3 refine AX ?_
  refine .cl rfl Tryz.call275 (evs1 rfl) (wLow_calls _ _ _ _) ?_;iterate 5 refine AX ?_
  refine AWP.frz (t:=4) rfl (hb4) ?_;iterate 2 refine AX ?_
  refine⟨?_,rfl⟩;simp only[packed];rw[low_of,Nat.mod_eq_of_lt (Nat.lt_of_le_of_lt (Nat.div_le_self _ _) hv)];rfl
theorem wAdd_calls(a b:Nat)(ha:a<M2)(hb:b<M2)(H:Heap):ACall Tryz.prog 204 [u2 a,u2 b] H (λy H'=>y= .tuple [u2 ((a+b)%M2),.bool (decide (M2≤a+b))]∧H'=H):=by
  have ha1:=h2_lt ha;have hb1:=h2_lt hb;have ha2:=l2_lt a;have hb2:=l2_lt b;have hc:(a%M1+b%M1)/18446744073709551616≤1:=add_c;generalize hce:(a%M1+b%M1)/18446744073709551616=c at hc;refine ACall.of_body Tryz.func204 rfl Tryz.ntmps204 Tryz.results204 rfl ?_;iterate 4 refine AX ?_
  refine .al zr91 (λb4 hb4=>?_);iterate 5 refine AX ?_
  refine .p rfl (pure_fieldI Tryz.underlying91 rfl Tryz.sizeOf25 (tm rfl)) ?_;refine AX ?_;refine .p rfl (pure_fieldI Tryz.underlying91 rfl Tryz.sizeOf25 (tm rfl)) ?_;refine AX ?_;refine AList.ext rfl ext276 (.cons (tm rfl) (.cons (tm rfl) (.cons (ev_nat 0) .nil))) (ext_add64z) ?_;iterate 8 refine AX ?_
  rw[hce];refine AX ?_;refine .p rfl (pure_fieldI Tryz.underlying91 rfl Tryz.sizeOf25 (tm rfl)) ?_;refine AX ?_;refine .p rfl (pure_fieldI Tryz.underlying91 rfl Tryz.sizeOf25 (tm rfl)) ?_;iterate 2 refine AX ?_
  refine AList.ext rfl ext276 (evs3 rfl rfl rfl) (ext_add64 (x:=a/M1) (y:=b/M1) (c:=c) hc) ?_;iterate 11 refine AX ?_
  refine .p rfl (pure_bd zr91 pl91 (.cons (tm rfl) (.inl rfl) (.cons (tm rfl) (.inl rfl) .nil)) rfl) ?_;iterate 6 refine AM ?_
  refine AWP.frz (t:=4) rfl (hb4) ?_;iterate 2 refine AX ?_
  refine⟨?_,rfl⟩;have e1:=@add_over a b;have e2:=@add_hi a b;have e3:=@add_lo a b;rw[show(a%M1+b%M1)/M1=c from hce]at e1 e2;rw[←e1];unfold u2 w2;rw[←e2,←e3];rfl
end Go.Proofs.YtojblnldfdeefaaGreatDoor
namespace Go.Proofs.YtojblnldfdeefaaGreatDoor
open Go Go.RowKit
set_option maxRecDepth 100000
theorem blen0{n:Nat}:((blen n:Nat):Int)=0↔n=0:=by
  have h:=@lt_blen n 0;rw[Nat.pow_zero]at h;omega
def farB(n:Nat)(e:Int):Bool:=decide (n=0∨(e< -10000∧e+blen n< -2000)∨2000<e)
def farV(neg:Bool)(n:Nat)(e:Int):Nat:=if n=0∨(e< -10000∧e+blen n< -2000)then signN neg else if 2000<e then signN neg+infN else 0
theorem far_lo{neg:Bool}{n:Nat}{e:Int}(h:n=0∨(e< -10000∧e+blen n< -2000)):farV neg n e=signN neg∧farB n e=true:=by
  unfold farV farB;exact⟨if_pos h,decide_eq_true (by omega)⟩
theorem far_hi{neg:Bool}{n:Nat}{e:Int}(h:¬(n=0∨(e< -10000∧e+blen n< -2000)))(h2:2000<e):farV neg n e=signN neg+infN∧farB n e=true:=by
  unfold farV farB;exact⟨by rw[if_neg h,if_pos h2],decide_eq_true (by omega)⟩
theorem far_no{neg:Bool}{n:Nat}{e:Int}(h:¬(n=0∨(e< -10000∧e+blen n< -2000)))(h2:¬2000<e):farV neg n e=0∧farB n e=false:=by
  unfold farV farB;exact⟨by rw[if_neg h,if_neg h2],decide_eq_false (by omega)⟩
theorem far_true{neg:Bool}{n:Nat}{e:Int}{more:Bool}(h:farB n e=true):roundN neg n e more=farV neg n e:=by
  have h:=of_decide_eq_true h;unfold roundN farV;split
  · rfl
  rw[if_pos (by omega),if_pos (by omega)]
theorem far_false{neg:Bool}{n:Nat}{e:Int}{more:Bool}(h:farB n e=false):0<n∧e≤2000∧ -110000≤e+blen n∧roundN neg n e more=packN neg (mantN n e more) (unitN n e):=by
  have h:=of_decide_eq_false h;refine⟨by omega,by omega,by omega,?_⟩;unfold roundN;rw[if_neg (by omega),if_neg (by omega)]
def packA(m:Nat):Nat:=if m=9007199254740992 then 4503599627370496 else m
def packU(m:Nat)(u:Int):Int:=if m=9007199254740992 then u+1 else u
theorem packN_eq(neg:Bool)(m:Nat)(u:Int):packN neg m u=signN neg+packM (packA m) (packU m u):=by
  unfold packN packA packU;split<;>rfl
theorem packA_lt{m:Nat}(h:m≤9007199254740992):packA m≤9007199254740991:=by unfold packA;split<;>omega
theorem packU_le(m:Nat)(u:Int):u≤packU m u∧packU m u≤u+1:=by unfold packU;split<;>omega
theorem shl52{k:Nat}(_:k≤100000):k*2^52=k*4503599627370496:=by rw[show(2:Nat)^52=4503599627370496 by decide]
theorem pack_calls(neg:Bool)(m:Nat)(hm:m≤9007199254740992)(u:Int)(hu: -1074≤u∧u≤1000000)(H:Heap):ACall Tryz.prog 280 [.bool neg,.int .u64 (m:Int),.int .i64 u] H (λy H'=>y= .int .u64 ((packN neg m u:Nat):Int)∧H'=H):=by
  refine ACall.of_body Tryz.func280 rfl Tryz.ntmps280 Tryz.results280 rfl ?_;iterate 5 refine AM ?_
  refine AWP.seqToL [(1,.int .u64 ((packA m:Nat):Int)),(2,.int .i64 (packU m u))] [0,6] ?_ ?_
  · iterate 6 refine AM ?_
    refine AWP.cx rfl (λhc8=>?_) (λhc8=>?_)
    · iterate 3 refine AX ?_
      iterate 3 refine AM ?_
      exact⟨rfl,(sub_e rfl (by(unfold packA;rw[if_pos (by omega)];done)) (sub_e rfl (by(unfold packU;rw[if_pos (by omega)];done)) sX)),rfl⟩
    refine AX ?_;exact⟨rfl,(sub_e rfl (by(unfold packA;rw[if_neg (by omega)];done)) (sub_e rfl (by(unfold packU;rw[if_neg (by omega)];done)) sX)),rfl⟩
  refine AWP.sub [(1,_),(2,_),(0,_),(6,_)] sX ?_;rw[packN_eq];have hA:=packA_lt hm;have hU:=packU_le m u;generalize packA m=m1 at hA ⊢;generalize packU m u=u1 at hU ⊢;refine AWP.seqToL [(1,.int .u64 ((packM m1 u1:Nat):Int))] [2,0,6] ?_ ?_
  · iterate 6 refine AM ?_
    refine bool_casesL (t:=14) rfl (λhg14=>?_) (λhg14=>?_)
    · have hh14:=hg14;try simp only[decide_eq_true_eq]at hh14
      iterate 7 refine AX ?_
      refine AWP.cx rfl (λhc11=>?_) (λhc11=>?_)
      · try simp only[Bool.and_eq_true,decide_eq_true_eq]at hc11
        iterate 4 refine AM ?_
        exact⟨rfl,(sub_e rfl (by unfold packM;first|(rw[if_neg (by omega),if_pos (by omega)];rfl)|(rw[if_pos (by omega)];done)|(rw[if_neg (by omega),if_neg (by omega),shl52 (by omega)])) sX),rfl⟩
      try simp only[Bool.and_eq_false_iff,decide_eq_false_iff_not]at hc11
      iterate 7 refine AM ?_
      refine AWP.cx rfl (λhc19=>?_) (λhc19=>?_)
      · iterate 5 refine AX ?_
        refine .p rfl (.as (b:=.int .u64 (((u1+1074).toNat:Nat):Int)) (by congr 1;omega) (pure_convX Tryz.underlying3 Tryz.underlying25 (tm rfl) (wrap64 (by omega) (by omega)))) ?_;refine .p rfl (pure_shlX64 (tm rfl) (ev_nat 52) (by omega) (by rw[shl52 (by omega)];omega)) ?_;refine .p rfl (pure_addX64 (tm rfl) (tm rfl) (by(rw[shl52 (by omega)];omega))) ?_;iterate 3 refine AX ?_
        exact⟨rfl,(sub_e rfl (by unfold packM;first|(rw[if_neg (by omega),if_pos (by omega)];rfl)|(rw[if_pos (by omega)];done)|(rw[if_neg (by omega),if_neg (by omega),shl52 (by omega)])) sX),rfl⟩
      iterate 2 refine AX ?_
      exact⟨rfl,(sub_e rfl (by unfold packM;first|(rw[if_neg (by omega),if_pos (by omega)];rfl)|(rw[if_pos (by omega)];done)|(rw[if_neg (by omega),if_neg (by omega),shl52 (by omega)])) sX),rfl⟩
    have hh14:=hg14;try simp only[decide_eq_false_iff_not,Int.not_le]at hh14
    iterate 7 refine AX ?_
    refine AWP.cond_false (tm rfl) (by rfl) ?_;iterate 7 refine AM ?_
    refine AWP.cx rfl (λhc19=>?_) (λhc19=>?_)
    · iterate 5 refine AX ?_
      refine .p rfl (.as (b:=.int .u64 (((u1+1074).toNat:Nat):Int)) (by congr 1;omega) (pure_convX Tryz.underlying3 Tryz.underlying25 (tm rfl) (wrap64 (by omega) (by omega)))) ?_;refine .p rfl (pure_shlX64 (tm rfl) (ev_nat 52) (by omega) (by rw[shl52 (by omega)];omega)) ?_;refine .p rfl (pure_addX64 (tm rfl) (tm rfl) (by(rw[shl52 (by omega)];omega))) ?_;iterate 3 refine AX ?_
      exact⟨rfl,(sub_e rfl (by unfold packM;first|(rw[if_neg (by omega),if_pos (by omega)];rfl)|(rw[if_pos (by omega)];done)|(rw[if_neg (by omega),if_neg (by omega),shl52 (by omega)])) sX),rfl⟩
    iterate 2 refine AX ?_
    exact⟨rfl,(sub_e rfl (by unfold packM;first|(rw[if_neg (by omega),if_pos (by omega)];rfl)|(rw[if_pos (by omega)];done)|(rw[if_neg (by omega),if_neg (by omega),shl52 (by omega)])) sX),rfl⟩
  refine AWP.sub [(1,_),(2,_),(0,_),(6,_)] sX ?_;have hM:=packM_lt (u:=u1) hA;have hM2:packM m1 u1<9223372036854775808:=Nat.lt_of_le_of_lt hM (by decide);iterate 6 refine AX ?_
  refine AWP.cx rfl (λhc29=>?_) (λhc29=>?_)
  · iterate 2 refine AX ?_
    refine .p rfl (pure_or64 (tm rfl) (ev_nat 9223372036854775808) (by omega) (by omega)) ?_;iterate 11 refine AX ?_
    refine⟨?_,rfl⟩;simp only[packed,signN];rw[if_pos (by assumption),or_sign hM2]
  iterate 10 refine AX ?_
  refine⟨?_,rfl⟩;simp only[packed,signN];rw[if_neg (by simp_all),Nat.zero_add]
theorem unit_calls(n:Nat)(e:Int)(hn:blen n≤100000)(he: -1000000000000000≤e∧e≤1000000000000000)(H:Heap):ACall Tryz.prog 279 [.int .i64 (blen n:Int),.int .i64 e] H (λy H'=>y= .int .i64 (unitN n e)∧H'=H):=by
  refine ACall.of_body Tryz.func279 rfl Tryz.ntmps279 Tryz.results279 rfl ?_;iterate 17 refine AX ?_
  refine⟨?_,rfl⟩;simp only[packed,unitN,imax]<;>(congr 1;split<;>split<;>omega)
theorem far_calls(neg:Bool)(n:Nat)(e:Int)(hn:blen n≤100000)(he: -1000000000000000≤e∧e≤1000000000000000)(H:Heap):ACall Tryz.prog 278 [.bool neg,.int .i64 (blen n:Int),.int .i64 e] H (λy H'=>y= .tuple [.int .u64 ((farV neg n e:Nat):Int),.bool (farB n e)]∧H'=H):=by
  have hb0:=@blen0 n;refine ACall.of_body Tryz.func278 rfl Tryz.ntmps278 Tryz.results278 rfl ?_;iterate 11 refine AM ?_
  iterate 2 refine AX ?_
  refine bool_casesL (t:=11) rfl (λhg11=>?_) (λhg11=>?_)
  · have hh11:=hg11;try simp only[decide_eq_true_eq]at hh11
    iterate 12 refine AX ?_
    refine AWP.cond_true (tm rfl) (by rfl) ?_;iterate 3 refine AX ?_
    refine .cl rfl Tryz.call280 (.cons (tm rfl) (.cons (ev_nat 0) (.cons ev_int .nil))) (pack_calls _ _ (by omega) _ (by omega) _) ?_;iterate 8 refine AX ?_
    refine⟨?_,rfl⟩;obtain⟨e1,e2⟩:=far_lo (neg:=neg) (n:=n) (e:=e) (by omega);rw[e1,e2];rfl
  have hh11:=hg11;try simp only[decide_eq_false_iff_not]at hh11
  iterate 3 refine AX ?_
  refine bool_casesL (t:=14) rfl (λhg14=>?_) (λhg14=>?_)
  · have hh14:=hg14;try simp only[decide_eq_true_eq]at hh14
    iterate 9 refine AX ?_
    refine AWP.cx rfl (λhc8=>?_) (λhc8=>?_)
    · iterate 3 refine AX ?_
      refine .cl rfl Tryz.call280 (.cons (tm rfl) (.cons (ev_nat 0) (.cons ev_int .nil))) (pack_calls _ _ (by omega) _ (by omega) _) ?_;iterate 8 refine AX ?_
      refine⟨?_,rfl⟩;obtain⟨e1,e2⟩:=far_lo (neg:=neg) (n:=n) (e:=e) (by omega);rw[e1,e2];rfl
    iterate 7 refine AX ?_
    refine AWP.cx rfl (λhc23=>?_) (λhc23=>?_)
    · iterate 3 refine AX ?_
      refine .cl rfl Tryz.call280 (.cons (tm rfl) (.cons (ev_nat 4503599627370496) (.cons ev_int .nil))) (pack_calls _ _ (by omega) _ (by omega) _) ?_;iterate 8 refine AX ?_
      refine⟨?_,rfl⟩;obtain⟨e1,e2⟩:=far_hi (neg:=neg) (n:=n) (e:=e) (by omega) (by omega);rw[e1,e2];rfl
    iterate 11 refine AM ?_
    refine⟨?_,rfl⟩;obtain⟨e1,e2⟩:=far_no (neg:=neg) (n:=n) (e:=e) (by omega) (by omega);rw[e1,e2];rfl
  have hh14:=hg14;try simp only[decide_eq_false_iff_not,Int.not_lt]at hh14
  iterate 9 refine AX ?_
  refine AWP.cond_false (tm rfl) (by rfl) ?_;iterate 7 refine AX ?_
  refine AWP.cx rfl (λhc23=>?_) (λhc23=>?_)
  · iterate 3 refine AX ?_
    refine .cl rfl Tryz.call280 (.cons (tm rfl) (.cons (ev_nat 4503599627370496) (.cons ev_int .nil))) (pack_calls _ _ (by omega) _ (by omega) _) ?_;iterate 8 refine AX ?_
    refine⟨?_,rfl⟩;obtain⟨e1,e2⟩:=far_hi (neg:=neg) (n:=n) (e:=e) (by omega) (by omega);rw[e1,e2];rfl
  iterate 11 refine AM ?_
  refine⟨?_,rfl⟩;obtain⟨e1,e2⟩:=far_no (neg:=neg) (n:=n) (e:=e) (by omega) (by omega);rw[e1,e2];rfl
end Go.Proofs.YtojblnldfdeefaaGreatDoor
-- shim
namespace Go.Proofs.YtojblnldfdeefaaGreatDoor
open Go Go.RowKit
theorem shl_big{v n:Nat}(h1:64≤n):v*2^n%M2/M1=v%M1*2^(n-64)%M1∧v*2^n%M2%M1=0:=by
  have e:v*2^n=M1*(v*2^(n-64)):=by
    rw[M1_two,Nat.mul_left_comm,←Nat.pow_add,show 64+(n-64)=n by omega]
  have h0:0<M1:=by decide
  rw[e,M2_eq,Nat.mul_mod_mul_left,Nat.mul_div_cancel_left _ h0,Nat.mul_mod_right];refine⟨?_,rfl⟩;have q1:=Nat.mul_mod v (2^(n-64)) M1;have q2:=Nat.mul_mod (v%M1) (2^(n-64)) M1;rw[Nat.mod_mod]at q2;exact q1.trans q2.symm
theorem sub_lo{a b:Nat}(hb:b<M2):(a+M2-b)%M2%M1=(a%M1+M1-b%M1-0)%M1:=by
  unfold M1 M2 at *;omega
theorem sub_hi{a b:Nat}(ha:a<M2)(hb:b<M2):(a+M2-b)%M2/M1=(a/M1+M1-b/M1-(if a%M1<b%M1+0 then 1 else 0))%M1:=by
  unfold M1 M2 at *;split<;>omega
theorem sub_under{a b:Nat}(_:a<M2)(_:b<M2):((if a/M1<b/M1+(if a%M1<b%M1+0 then 1 else 0)then 1 else 0:Nat)=1↔a<b):=by
  unfold M1 M2 at *;by_cases p:a%18446744073709551616<b%18446744073709551616+0
  · rw[if_pos p];by_cases q:a/18446744073709551616<b/18446744073709551616+1
    · rw[if_pos q];omega
    rw[if_neg q];omega
  rw[if_neg p];by_cases q:a/18446744073709551616<b/18446744073709551616+0
  · rw[if_pos q];omega
  rw[if_neg q];omega
end Go.Proofs.YtojblnldfdeefaaGreatDoor
namespace Go.Proofs.YtojblnldfdeefaaGreatDoor
open Go Go.RowKit Go.Shelf
theorem ext277:IsExt Tryz.prog 277 sub64Entry:=⟨_,Tryz.func277,by kernel_rfl,by kernel_rfl,by kernel_rfl,by kernel_rfl⟩
theorem ext_sub64{x y c:Nat}(hc:c≤1):∀g vs w,RelVs g [.int .u64 (x:Int),.int .u64 (y:Int),.int .u64 (c:Int)] vs→∃v,(sub64Entry vs.toArray).run Tryz.prog w= .ok v w∧RelV g (.tuple [.int .u64 (((x+18446744073709551616-y-c)%18446744073709551616:Nat):Int),.int .u64 ((if x<y+c then 1 else 0:Nat):Int)]) v:=by
  intro g vs w hr;obtain⟨v,u,z,rfl,h1,h2,h3⟩:=relvs3 hr;cases h1;cases h2;cases h3
  have hrun:=run_sub64 (P:=Tryz.prog) x y c hc w;refine⟨_,hrun,.tuple _ _ rfl (λi c v hc hv=>?_)⟩
  match i with
  |0=>cases hc;cases hv;exact .int _ _
  |1=>cases hc;cases hv;exact .int _ _
  |i+2=>simp at hc
theorem ext_sub64z{x y:Nat}:∀g vs w,RelVs g [.int .u64 (x:Int),.int .u64 (y:Int),.int .u64 ((0:Nat):Int)] vs→∃v,(sub64Entry vs.toArray).run Tryz.prog w= .ok v w∧RelV g (.tuple [.int .u64 (((x+18446744073709551616-y-0)%18446744073709551616:Nat):Int),.int .u64 ((if x<y+0 then 1 else 0:Nat):Int)]) v:=@ext_sub64 x y 0 (by decide)
end Go.Proofs.YtojblnldfdeefaaGreatDoor
-- shim
namespace Go.Proofs.YtojblnldfdeefaaGreatDoor
open Go Go.RowKit
set_option maxRecDepth 100000
theorem eqIn2(d:Nat)(a b a2 b2:Int)(w:World):(Op.equalIn (d+2) 91 (.agg #[.int .u64 a,.int .u64 b]) (.agg #[.int .u64 a2,.int .u64 b2])).run Tryz.prog w= .ok (decide (a=a2∧b=b2)) w:=by
  have u3:=Tryz.underlying25;have a3:=Tryz.isAgg25;have z3:=Tryz.sizeOf25;have hS:Tryz.prog.underlying 91=some (.struct (Tryz.prog.fieldsOf 91)):=by kernel_rfl
  have hp:Tryz.prog.stoodInHeld 91=false:=by kernel_rfl
  rw[run_equalIn_agg w (d+1) 91 _ _ hS hp];simp only[Program.fieldsOf,Tryz.underlying91]
  go_simp
  by_cases h1:a=a2<;>by_cases h2:b=b2<;>simp[h1,h2]
theorem eq2(a b a2 b2:Int):EqCells Tryz.prog 91 [.int .u64 a,.int .u64 b] [.int .u64 a2,.int .u64 b2] (decide (a=a2∧b=b2)):=λg xs ys w h k=>by
  rw[h.plain [.int .u64 a,.int .u64 b] rfl,k.plain [.int .u64 a2,.int .u64 b2] rfl];exact eqIn2 9998 a b a2 b2 w
theorem one_iff{p:Prop}[Decidable p]:(((0:Nat):Int)<((if p then 1 else 0:Nat):Int))↔(if p then 1 else 0:Nat)=1:=by
  by_cases h:p
  · rw[if_pos h];decide
  rw[if_neg h];decide
theorem sub_bool{a b:Nat}(ha:a<M2)(hb:b<M2):decide (((0:Nat):Int)<((if a/M1<b/M1+(if a%M1<b%M1+0 then 1 else 0)then 1 else 0:Nat):Int))=decide (a<b):=decide_eq_decide.2 (one_iff.trans (sub_under ha hb))
theorem subc_le(x y:Nat):(if x<y+0 then 1 else 0:Nat)≤1:=by split<;>omega
theorem wSub_calls(a b:Nat)(ha:a<M2)(hb:b<M2)(H:Heap):ACall Tryz.prog 205 [u2 a,u2 b] H (λy H'=>y= .tuple [u2 ((a+M2-b)%M2),.bool (decide (a<b))]∧H'=H):=by
  refine ACall.of_body Tryz.func205 rfl Tryz.ntmps205 Tryz.results205 rfl ?_;refine .sr ?_;refine .e rfl (step_boxI (tm rfl) (.inr ⟨_,rfl⟩)) ?_;refine .e rfl (step_boxI (tm rfl) (.inr ⟨_,rfl⟩)) ?_;refine .s rfl (step_al zr91) ?_;rintro _ _ ⟨b4,hb4,rfl,hH⟩;obtain rfl:=hH.symm;refine .p rfl (pure_assign ev_bool) ?_;refine .nr ?_;refine .p rfl (pure_fieldI Tryz.underlying91 rfl Tryz.sizeOf25 (tm rfl)) ?_;refine .p rfl (pure_load1 Tryz.isAgg25 (tm rfl)) ?_;refine .p rfl (pure_fieldI Tryz.underlying91 rfl Tryz.sizeOf25 (tm rfl)) ?_;refine .p rfl (pure_load1 Tryz.isAgg25 (tm rfl)) ?_;refine AList.ext rfl ext277 (.cons (tm rfl) (.cons (tm rfl) (.cons (ev_nat 0) .nil))) (ext_sub64z) ?_;refine .mv rfl rfl ?_;refine .p rfl (pure_extract (tm rfl) rfl) ?_;refine .p rfl (pure_extract (tm rfl) rfl) ?_;refine .as rfl rfl ?_;refine .as rfl rfl ?_;refine .nr ?_;refine .p rfl (pure_fieldI Tryz.underlying91 rfl Tryz.sizeOf25 (tm rfl)) ?_;refine .p rfl (pure_load1 Tryz.isAgg25 (tm rfl)) ?_;refine .p rfl (pure_fieldI Tryz.underlying91 rfl Tryz.sizeOf25 (tm rfl)) ?_;refine .p rfl (pure_load1 Tryz.isAgg25 (tm rfl)) ?_;refine .mv rfl rfl ?_;refine AList.ext rfl ext277 (evs3 rfl rfl rfl) (ext_sub64 (x:=a/M1) (y:=b/M1) (c:=(if a%M1<b%M1+0 then 1 else 0)) (subc_le _ _)) ?_;refine .mv rfl rfl ?_;refine .p rfl (pure_extract (tm rfl) rfl) ?_;refine .p rfl (pure_extract (tm rfl) rfl) ?_;refine .as rfl rfl ?_;refine .as rfl rfl ?_;refine .nr ?_;refine .mv rfl rfl ?_;refine .mv rfl rfl ?_;refine .p rfl (pure_bd zr91 pl91 (.cons (tm rfl) (.inl rfl) (.cons (tm rfl) (.inl rfl) .nil))) ?_;refine .mv rfl rfl ?_;refine .p rfl (pure_gtr (tm rfl) (ev_nat 0)) ?_;refine .e0 (step_store Tryz.sizeOf91 (tm rfl) (tm rfl) rfl rfl (.inr ⟨_,rfl⟩) (Heap.objs_set_same _ _ _) (Nat.le_of_ble_eq_true rfl)) ?_;try first|rw[Heap.set_set]|rw[Heap.set_under (by assumption)]
  refine .as rfl rfl ?_;refine .ng ?_;refine AWP.frz (t:=4) rfl (hb4) ?_;refine .ret ?_;refine Ret.go (.cons (.cellI _ _ _ _ rfl Tryz.isAgg91 Tryz.sizeOf91 rfl) (.cons (.tmp _ _ rfl) .nil)) _ (Heap.le.refl _) ?_;refine⟨?_,rfl⟩;rw[←sub_bool ha hb];unfold u2 w2;rw[sub_hi ha hb,sub_lo hb];rfl
theorem wShlF_calls(v:Nat)(n:Nat)(hn:64≤n∧n<128)(q:Int)(hq:q=(n:Int))(H:Heap):ACall Tryz.prog 148 [u2 v,.int .i64 q] H (λy H'=>y=u2 (v*2^n%M2)∧H'=H):=by
  subst hq;refine ACall.of_body Tryz.func148 rfl Tryz.ntmps148 Tryz.results148 rfl ?_;refine .sr ?_;refine .e rfl (step_boxI (tm rfl) (.inr ⟨_,rfl⟩)) ?_;refine .s rfl (step_al zr91) ?_;rintro _ _ ⟨b4,hb4,rfl,hH⟩;obtain rfl:=hH.symm;refine .nr ?_;refine .mv rfl rfl ?_;refine .p rfl (pure_max2 (tm rfl) ev_int) ?_;refine .as rfl rfl ?_;refine .ng ?_;refine .seq ?_;refine .seq ?_;rw[show imax (n:Int) 0=(n:Int) by simp only[imax];split<;>omega];refine .region ?_;refine .mv rfl rfl ?_;refine .p rfl (pure_geq (tm rfl) ev_int) ?_;refine .ng ?_;refine AWP.cond_true (tm rfl) (by exact decide_eq_true (by omega)) ?_;refine .sr ?_;refine .p rfl (pure_fieldI Tryz.underlying91 rfl Tryz.sizeOf25 (tm rfl)) ?_;refine .p rfl (pure_load1 Tryz.isAgg25 (tm rfl)) ?_;refine .mv rfl rfl ?_;refine .p rfl (pure_sub (tm rfl) ev_int (by omega)) ?_;refine .p rfl (.as (b:=.int .i64 ((n-64:Nat):Int)) (by simp only[imin];split<;>(congr 1;omega)) (pure_min2 (tm rfl) ev_int)) ?_;refine .p rfl (pure_shl64 (tm rfl) (tm rfl)) ?_;refine .p rfl (pure_bd zr91 pl91 (.cons (tm rfl) (.inl rfl) (.cons (ev_nat 0) (.inl rfl) .nil))) ?_;refine .e0 (step_store Tryz.sizeOf91 (tm rfl) (tm rfl) rfl rfl (.inr ⟨_,rfl⟩) (Heap.objs_set_same _ _ _) (Nat.le_of_ble_eq_true rfl)) ?_;try first|rw[Heap.set_set]|rw[Heap.set_under (by assumption)]
  refine .ng ?_;refine AWP.frz (t:=4) rfl (hb4) ?_;refine .ret ?_;refine Next.rt ?_;refine Ret.go (.cons (.cellI _ _ _ _ rfl Tryz.isAgg91 Tryz.sizeOf91 rfl) .nil) _ (Heap.le.refl _) ?_;refine⟨?_,rfl⟩;obtain⟨e1,e2⟩:=shl_big (v:=v) hn.1;unfold u2 w2;rw[e1,e2];rfl
end Go.Proofs.YtojblnldfdeefaaGreatDoor
