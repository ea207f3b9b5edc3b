/-
  A function of numbers done, and called.
-/
import Derived.Test.YtojblnldfdeefaaGreatDoorHsk
namespace Go.Proofs.YtojblnldfdeefaaGreatDoor
open Go Go.RowKit
set_option maxRecDepth 100000
theorem zr62:ZR 62 (Tryz.zeroCells62.toList.map AV.raw):=⟨_,Tryz.zeroValue62,λg=>raw_cells g _⟩
theorem zr69:ZR 69 [.ptr none,.slice 4 [] .full,.int .i64 0]:=ZRi Tryz.zeroValue69
theorem pl69:PL 69 [(0,1),(1,1),(2,1)]:=PLi Tryz.underlying69 ⟨rfl,Tryz.sizeOf36,rfl,Tryz.sizeOf44,rfl,Tryz.sizeOf3,True.intro⟩
def names14:List (List UInt8):=[[83,85,77],[80,82,79,68,85,67,84],[83,85,77,83,81],[65,86,69,82,65,71,69],[77,73,78],[77,65,88],[77,69,68,73,65,78],[67,79,85,78,84],[67,79,85,78,84,65],[71,67,68],[76,67,77],[65,78,68],[79,82],[88,79,82]]
def names16:List (List UInt8):=names14++[[76,65,82,71,69],[83,77,65,76,76]]
def inS(nm:List UInt8):Prop:=nm∈([[83,85,77],[80,82,79,68,85,67,84],[83,85,77,83,81],[65,86,69,82,65,71,69],[77,73,78],[77,65,88],[77,69,68,73,65,78]]:List (List UInt8))
def inD(nm:List UInt8):Prop:=nm∈([[71,67,68],[76,67,77]]:List (List UInt8))
def inR(nm:List UInt8):Prop:=nm∈([[76,65,82,71,69],[83,77,65,76,76]]:List (List UInt8))
def inK(nm:List UInt8):Prop:=nm∈([[67,79,85,78,84],[67,79,85,78,84,65],[67,79,85,78,84,66,76,65,78,75]]:List (List UInt8))
instance (nm:List UInt8):Decidable (inS nm):=by unfold inS;infer_instance
instance (nm:List UInt8):Decidable (inD nm):=by unfold inD;infer_instance
instance (nm:List UInt8):Decidable (inR nm):=by unfold inR;infer_instance
instance (nm:List UInt8):Decidable (inK nm):=by unfold inK;infer_instance
theorem disj{nm:List UInt8}{l m:List (List UInt8)}(h:nm∈l)(hd:∀x,x∈l→¬x∈m):¬nm∈m:=hd nm h
theorem disjE{nm r:List UInt8}{l:List (List UInt8)}(h:nm∈l)(hd:∀x,x∈l→¬x=r):¬nm=r:=hd nm h
theorem cover{nm:List UInt8}(h:nm∈names16):nm∈([[83,85,77],[80,82,79,68,85,67,84],[83,85,77,83,81],[65,86,69,82,65,71,69],[77,73,78],[77,65,88],[77,69,68,73,65,78]]:List (List UInt8))∨nm∈([[71,67,68],[76,67,77]]:List (List UInt8))∨nm∈([[76,65,82,71,69],[83,77,65,76,76]]:List (List UInt8))∨nm∈([[67,79,85,78,84],[67,79,85,78,84,65],[67,79,85,78,84,66,76,65,78,75]]:List (List UInt8))∨nm∈([[65,78,68],[79,82],[88,79,82]]:List (List UInt8)):=
  (show∀x,x∈names16→x∈([[83,85,77],[80,82,79,68,85,67,84],[83,85,77,83,81],[65,86,69,82,65,71,69],[77,73,78],[77,65,88],[77,69,68,73,65,78]]:List (List UInt8))∨x∈([[71,67,68],[76,67,77]]:List (List UInt8))∨x∈([[76,65,82,71,69],[83,77,65,76,76]]:List (List UInt8))∨x∈([[67,79,85,78,84],[67,79,85,78,84,65],[67,79,85,78,84,66,76,65,78,75]]:List (List UInt8))∨x∈([[65,78,68],[79,82],[88,79,82]]:List (List UInt8)) by decide) nm h
def doesV(nm:List UInt8)(l:List ArgN):Val:=
  if inS nm then sumsV nm (flatA l)else if inD nm then divV nm (flatA l)
  else if inR nm then NumV (rankN (decide (nm=[76,65,82,71,69])) (flatA (l.take 1)) (toN ((l.getD 1 (oneA 0)).cells.getD 0 0)).1)
  else if inK nm then NumV (fromI (((flatA l).length:Nat):Int))else logicV nm ((flatA l).map truthN)
def lowV(nm:List UInt8):Int:=if inR nm then 2 else if inS nm∨inK nm then 0 else 1
def highV(nm:List UInt8):Int:=if inR nm then 2 else 1073741824
structure CallOK (nm:List UInt8) (l:List ArgN):Prop where
  mem:nm∈names16
  len:l.length≤40
  fine:∀a,a∈l→a.fine
  pos:0<(flatA l).length
  few:(flatA l).length<40
  rank:inR nm→∃a x,l=[a,oneA x]∧x<18446744073709551616∧(toN x).2=0∧1≤(toN x).1∧(toN x).1≤(a.cells.length:Int)∧a.cells.length<40
  low:1≤l.length
theorem CallOK.low2{nm:List UInt8}{l:List ArgN}(h:CallOK nm l):lowV nm≤(l.length:Int)∧(l.length:Int)≤highV nm:=by
  have h1:=h.low;have h2:=h.len;unfold lowV highV;by_cases hr:inR nm
  · rw[if_pos hr,if_pos hr];obtain⟨a,x,rfl,_⟩:=h.rank hr;exact⟨by show(2:Int)≤2;decide,by show(2:Int)≤2;decide⟩
  rw[if_neg hr,if_neg hr];split<;>omega
theorem takes_calls{nm:List UInt8}(h:nm∈names16)(H:Heap):ACall Tryz.prog 23 [.str nm] H (λy H'=>y= .tuple [.int .i64 (lowV nm),.int .i64 (highV nm)]∧H'=H):=by
  simp only[names16,names14,List.cons_append,List.nil_append,List.mem_cons,List.not_mem_nil,or_false]at h;rcases h with rfl|rfl|rfl|rfl|rfl|rfl|rfl|rfl|rfl|rfl|rfl|rfl|rfl|rfl|rfl|rfl
  · exact closed_flat (k:=20) (xs:=[.str [83,85,77]]) (y:=.tuple [.int .i64 0,.int .i64 1073741824]) Tryz.func23 rfl (by kernel_rfl) rfl rfl H
  · exact closed_flat (k:=20) (xs:=[.str [80,82,79,68,85,67,84]]) (y:=.tuple [.int .i64 0,.int .i64 1073741824]) Tryz.func23 rfl (by kernel_rfl) rfl rfl H
  · exact closed_flat (k:=20) (xs:=[.str [83,85,77,83,81]]) (y:=.tuple [.int .i64 0,.int .i64 1073741824]) Tryz.func23 rfl (by kernel_rfl) rfl rfl H
  · exact closed_flat (k:=20) (xs:=[.str [65,86,69,82,65,71,69]]) (y:=.tuple [.int .i64 0,.int .i64 1073741824]) Tryz.func23 rfl (by kernel_rfl) rfl rfl H
  · exact closed_flat (k:=20) (xs:=[.str [77,73,78]]) (y:=.tuple [.int .i64 0,.int .i64 1073741824]) Tryz.func23 rfl (by kernel_rfl) rfl rfl H
  · exact closed_flat (k:=20) (xs:=[.str [77,65,88]]) (y:=.tuple [.int .i64 0,.int .i64 1073741824]) Tryz.func23 rfl (by kernel_rfl) rfl rfl H
  · exact closed_flat (k:=20) (xs:=[.str [77,69,68,73,65,78]]) (y:=.tuple [.int .i64 0,.int .i64 1073741824]) Tryz.func23 rfl (by kernel_rfl) rfl rfl H
  · exact closed_flat (k:=20) (xs:=[.str [67,79,85,78,84]]) (y:=.tuple [.int .i64 0,.int .i64 1073741824]) Tryz.func23 rfl (by kernel_rfl) rfl rfl H
  · exact closed_flat (k:=20) (xs:=[.str [67,79,85,78,84,65]]) (y:=.tuple [.int .i64 0,.int .i64 1073741824]) Tryz.func23 rfl (by kernel_rfl) rfl rfl H
  · exact closed_flat (k:=20) (xs:=[.str [71,67,68]]) (y:=.tuple [.int .i64 1,.int .i64 1073741824]) Tryz.func23 rfl (by kernel_rfl) rfl rfl H
  · exact closed_flat (k:=20) (xs:=[.str [76,67,77]]) (y:=.tuple [.int .i64 1,.int .i64 1073741824]) Tryz.func23 rfl (by kernel_rfl) rfl rfl H
  · exact closed_flat (k:=20) (xs:=[.str [65,78,68]]) (y:=.tuple [.int .i64 1,.int .i64 1073741824]) Tryz.func23 rfl (by kernel_rfl) rfl rfl H
  · exact closed_flat (k:=20) (xs:=[.str [79,82]]) (y:=.tuple [.int .i64 1,.int .i64 1073741824]) Tryz.func23 rfl (by kernel_rfl) rfl rfl H
  · exact closed_flat (k:=20) (xs:=[.str [88,79,82]]) (y:=.tuple [.int .i64 1,.int .i64 1073741824]) Tryz.func23 rfl (by kernel_rfl) rfl rfl H
  · exact closed_flat (k:=20) (xs:=[.str [76,65,82,71,69]]) (y:=.tuple [.int .i64 2,.int .i64 2]) Tryz.func23 rfl (by kernel_rfl) rfl rfl H
  exact closed_flat (k:=20) (xs:=[.str [83,77,65,76,76]]) (y:=.tuple [.int .i64 2,.int .i64 2]) Tryz.func23 rfl (by kernel_rfl) rfl rfl H
theorem has16{nm:List UInt8}(h:nm∈names16):bsHas nameL nm=true:=by
  have:names16.all (bsHas nameL)=true:=by kernel_rfl
  exact List.all_eq_true.1 this nm h
theorem does_calls(b:Nat)(q:FLoc)(po pr:AV)(l:List ArgN)(tl:Tail)(nm:List UInt8)(hC:CallOK nm l)(H:Heap)(hb:H.objs b=some (callB q po pr l tl)):ACall Tryz.prog 24 [.ptr (some ⟨b,0,none⟩),.str nm] H (λy H'=>y=(doesV nm l).av∧H'=H):=by
  have hln:=hC.len;have hbz:=flat_bits hC.fine;have hpo:=hC.pos;have hfe:=hC.few;refine ACall.of_body Tryz.func24 rfl Tryz.ntmps24 Tryz.results24 rfl ?_;refine .sr ?_;refine .s rfl (step_al zr27) ?_;rintro _ _ ⟨b4,hb4,rfl,hH⟩;obtain rfl:=hH.symm;refine .ng ?_;refine .seq ?_;refine .seq ?_;have hne4:b≠b4:=by rintro rfl;rw[hb]at hb4;cases hb4
  have hb4h:(H.set b4 (.box 27 [.int .i64 0,.int .u64 0,.bool false,.str [],.int .i64 0])).objs b=some (callB q po pr l tl):=(Heap.objs_set_ne _ _ hne4).trans hb;refine .region ?_;refine .mv rfl rfl ?_;refine .ng ?_;refine .block ?_;refine AWP.seqToL [(6,.bool (decide (nm∈([[83,85,77],[80,82,79,68,85,67,84],[83,85,77,83,81],[65,86,69,82,65,71,69],[77,73,78],[77,65,88],[77,69,68,73,65,78]]:List (List UInt8)))))] [0,1,4,5] ?_ ?_
  · refine .sr ?_;refine .p rfl (pure_eqlStr (tm rfl) (ev_str rfl)) ?_;refine .as rfl rfl ?_;refine .ng ?_;refine AWP.cond (tm rfl) (λhc6=>?_) (λhc6=>?_)
    · try simp only[decide_eq_true_eq]at hc6
      refine .skip ?_;exact⟨rfl,(sub_e rfl (by congr 1;exact decide_eq_decide.2 (by simp_all)) (sub_c rfl (sub_c rfl (sub_c rfl (sub_c rfl sub_n))))),rfl⟩
    try simp only[decide_eq_false_iff_not]at hc6
    refine .sr ?_;refine .p rfl (pure_eqlStr (tm rfl) (ev_str rfl)) ?_;refine .as rfl rfl ?_;refine .ng ?_;refine AWP.cond (tm rfl) (λhc6=>?_) (λhc6=>?_)
    · try simp only[decide_eq_true_eq]at hc6
      refine .skip ?_;exact⟨rfl,(sub_e rfl (by congr 1;exact decide_eq_decide.2 (by simp_all)) (sub_c rfl (sub_c rfl (sub_c rfl (sub_c rfl sub_n))))),rfl⟩
    try simp only[decide_eq_false_iff_not]at hc6
    refine .sr ?_;refine .p rfl (pure_eqlStr (tm rfl) (ev_str rfl)) ?_;refine .as rfl rfl ?_;refine .ng ?_;refine AWP.cond (tm rfl) (λhc6=>?_) (λhc6=>?_)
    · try simp only[decide_eq_true_eq]at hc6
      refine .skip ?_;exact⟨rfl,(sub_e rfl (by congr 1;exact decide_eq_decide.2 (by simp_all)) (sub_c rfl (sub_c rfl (sub_c rfl (sub_c rfl sub_n))))),rfl⟩
    try simp only[decide_eq_false_iff_not]at hc6
    refine .sr ?_;refine .p rfl (pure_eqlStr (tm rfl) (ev_str rfl)) ?_;refine .as rfl rfl ?_;refine .ng ?_;refine AWP.cond (tm rfl) (λhc6=>?_) (λhc6=>?_)
    · try simp only[decide_eq_true_eq]at hc6
      refine .skip ?_;exact⟨rfl,(sub_e rfl (by congr 1;exact decide_eq_decide.2 (by simp_all)) (sub_c rfl (sub_c rfl (sub_c rfl (sub_c rfl sub_n))))),rfl⟩
    try simp only[decide_eq_false_iff_not]at hc6
    refine .sr ?_;refine .p rfl (pure_eqlStr (tm rfl) (ev_str rfl)) ?_;refine .as rfl rfl ?_;refine .ng ?_;refine AWP.cond (tm rfl) (λhc6=>?_) (λhc6=>?_)
    · try simp only[decide_eq_true_eq]at hc6
      refine .skip ?_;exact⟨rfl,(sub_e rfl (by congr 1;exact decide_eq_decide.2 (by simp_all)) (sub_c rfl (sub_c rfl (sub_c rfl (sub_c rfl sub_n))))),rfl⟩
    try simp only[decide_eq_false_iff_not]at hc6
    refine .sr ?_;refine .p rfl (pure_eqlStr (tm rfl) (ev_str rfl)) ?_;refine .as rfl rfl ?_;refine .ng ?_;refine AWP.cond (tm rfl) (λhc6=>?_) (λhc6=>?_)
    · try simp only[decide_eq_true_eq]at hc6
      refine .skip ?_;exact⟨rfl,(sub_e rfl (by congr 1;exact decide_eq_decide.2 (by simp_all)) (sub_c rfl (sub_c rfl (sub_c rfl (sub_c rfl sub_n))))),rfl⟩
    try simp only[decide_eq_false_iff_not]at hc6
    refine .region ?_;refine .p rfl (pure_eqlStr (tm rfl) (ev_str rfl)) ?_;refine .as rfl rfl ?_;refine .nil ?_;exact⟨rfl,(sub_e rfl (by congr 1;exact decide_eq_decide.2 (by simp_all)) (sub_c rfl (sub_c rfl (sub_c rfl (sub_c rfl sub_n))))),rfl⟩
  refine AWP.sub [(6,_),(0,_),(1,_),(4,_),(5,_)] (sub_c rfl (sub_c rfl (sub_c rfl (sub_c rfl (sub_c rfl sub_n))))) ?_;refine AWP.cond (tm rfl) (λhc6=>?_) (λhc6=>?_)
  · try simp only[decide_eq_true_eq]at hc6
    refine .sr ?_;refine .mv rfl rfl ?_;refine .mv rfl rfl ?_;refine .mv rfl rfl ?_;refine .p rfl (pure_nilCheck (tm rfl)) ?_;refine .p rfl (pure_field Tryz.underlying69 rfl Tryz.sizeOf44 (tm rfl)) ?_;refine .e rfl (step_load1 Tryz.isAgg44 (tm rfl) (hb4h) rfl) ?_;refine .s rfl (step_call0 Tryz.call31 (evs2 rfl rfl) (cnums_calls b q po pr l tl l tl hC.len hC.fine _ hb4h)) ?_;rintro _ _ ⟨⟨tl1,rfl⟩,hH⟩;obtain rfl:=hH.symm;refine .cl rfl Tryz.call30 (evs2 rfl rfl) (sums_calls nm (flatA l) tl1 hbz hfe hpo _) ?_;refine .e0 (step_store Tryz.sizeOf27 (tm rfl) (tm rfl) rfl rfl (.inr ⟨_,rfl⟩) (Heap.objs_set_same _ _ _) (Nat.le_of_ble_eq_true rfl)) ?_;try first|rw[Heap.set_set]|rw[Heap.set_under (by assumption)]
    refine .ng ?_;refine AWP.frz (t:=4) rfl (hb4) ?_;refine .ret ?_;refine Block.rt ?_;refine Next.rt ?_;refine Ret.go (.cons (.cellI _ _ _ _ rfl Tryz.isAgg27 Tryz.sizeOf27 rfl) .nil) _ (Heap.le.refl _) ?_;refine⟨?_,rfl⟩;unfold doesV;rw[if_pos (show inS nm from hc6)];rfl
  try simp only[decide_eq_false_iff_not]at hc6
  refine AWP.seqToL [(22,.bool (decide (nm∈([[71,67,68],[76,67,77]]:List (List UInt8)))))] [0,1,4,5] ?_ ?_
  · refine .sr ?_;refine .p rfl (pure_eqlStr (tm rfl) (ev_str rfl)) ?_;refine .as rfl rfl ?_;refine .ng ?_;refine AWP.cond (tm rfl) (λhc22=>?_) (λhc22=>?_)
    · try simp only[decide_eq_true_eq]at hc22
      refine .skip ?_;exact⟨rfl,(sub_e rfl (by congr 1;exact decide_eq_decide.2 (by simp_all)) (sub_c rfl (sub_c rfl (sub_c rfl (sub_c rfl sub_n))))),rfl⟩
    try simp only[decide_eq_false_iff_not]at hc22
    refine .region ?_;refine .p rfl (pure_eqlStr (tm rfl) (ev_str rfl)) ?_;refine .as rfl rfl ?_;refine .nil ?_;exact⟨rfl,(sub_e rfl (by congr 1;exact decide_eq_decide.2 (by simp_all)) (sub_c rfl (sub_c rfl (sub_c rfl (sub_c rfl sub_n))))),rfl⟩
  refine AWP.sub [(22,_),(0,_),(1,_),(4,_),(5,_)] (sub_c rfl (sub_c rfl (sub_c rfl (sub_c rfl (sub_c rfl sub_n))))) ?_;refine AWP.cond (tm rfl) (λhc22=>?_) (λhc22=>?_)
  · try simp only[decide_eq_true_eq]at hc22
    refine .sr ?_;refine .mv rfl rfl ?_;refine .mv rfl rfl ?_;refine .mv rfl rfl ?_;refine .p rfl (pure_nilCheck (tm rfl)) ?_;refine .p rfl (pure_field Tryz.underlying69 rfl Tryz.sizeOf44 (tm rfl)) ?_;refine .e rfl (step_load1 Tryz.isAgg44 (tm rfl) (hb4h) rfl) ?_;refine .s rfl (step_call0 Tryz.call31 (evs2 rfl rfl) (cnums_calls b q po pr l tl l tl hC.len hC.fine _ hb4h)) ?_;rintro _ _ ⟨⟨tl1,rfl⟩,hH⟩;obtain rfl:=hH.symm;refine .cl rfl Tryz.call32 (evs2 rfl rfl) (div_calls nm (flatA l) tl1 hbz (by omega) hpo _) ?_;refine .e0 (step_store Tryz.sizeOf27 (tm rfl) (tm rfl) rfl rfl (.inr ⟨_,rfl⟩) (Heap.objs_set_same _ _ _) (Nat.le_of_ble_eq_true rfl)) ?_;try first|rw[Heap.set_set]|rw[Heap.set_under (by assumption)]
    refine .ng ?_;refine AWP.frz (t:=4) rfl (hb4) ?_;refine .ret ?_;refine Block.rt ?_;refine Next.rt ?_;refine Ret.go (.cons (.cellI _ _ _ _ rfl Tryz.isAgg27 Tryz.sizeOf27 rfl) .nil) _ (Heap.le.refl _) ?_;refine⟨?_,rfl⟩;unfold doesV;rw[if_neg (show¬inS nm from hc6),if_pos (show inD nm from hc22)];rfl
  try simp only[decide_eq_false_iff_not]at hc22
  refine AWP.seqToL [(33,.bool (decide (nm∈([[76,65,82,71,69],[83,77,65,76,76]]:List (List UInt8)))))] [0,1,4,5] ?_ ?_
  · refine .sr ?_;refine .p rfl (pure_eqlStr (tm rfl) (ev_str rfl)) ?_;refine .as rfl rfl ?_;refine .ng ?_;refine AWP.cond (tm rfl) (λhc33=>?_) (λhc33=>?_)
    · try simp only[decide_eq_true_eq]at hc33
      refine .skip ?_;exact⟨rfl,(sub_e rfl (by congr 1;exact decide_eq_decide.2 (by simp_all)) (sub_c rfl (sub_c rfl (sub_c rfl (sub_c rfl sub_n))))),rfl⟩
    try simp only[decide_eq_false_iff_not]at hc33
    refine .region ?_;refine .p rfl (pure_eqlStr (tm rfl) (ev_str rfl)) ?_;refine .as rfl rfl ?_;refine .nil ?_;exact⟨rfl,(sub_e rfl (by congr 1;exact decide_eq_decide.2 (by simp_all)) (sub_c rfl (sub_c rfl (sub_c rfl (sub_c rfl sub_n))))),rfl⟩
  refine AWP.sub [(33,_),(0,_),(1,_),(4,_),(5,_)] (sub_c rfl (sub_c rfl (sub_c rfl (sub_c rfl (sub_c rfl sub_n))))) ?_;refine AWP.cond (tm rfl) (λhc33=>?_) (λhc33=>?_)
  · try simp only[decide_eq_true_eq]at hc33
    obtain⟨a,x,hl2,hx1,hx2,hx3,hx4,hx5⟩:=hC.rank hc33;have hi:1<l.length:=by rw[hl2];exact Nat.lt_succ_self 1
    have hx:l[1].cells=[x]:=by subst hl2;rfl
    have hx6:(flatA (l.take 1)).length=a.cells.length:=by subst hl2;exact congrArg List.length (List.append_nil _)
    have hx7:(l.getD 1 (oneA 0)).cells.getD 0 0=x:=by subst hl2;rfl
    refine .sr ?_;refine .mv rfl rfl ?_;refine .mv rfl rfl ?_;refine .p rfl (pure_eqlStr (tm rfl) (ev_str rfl)) ?_;refine .cl rfl Tryz.call33 (evs2 rfl rfl) (cranked_calls b q po pr l tl hC.len hC.fine hi x hx hx1 hx2 hx3 (by rw[hx6];exact hx4) (by rw[hx6];exact hx5) _ _ hb4h) ?_;refine .e0 (step_store Tryz.sizeOf27 (tm rfl) (tm rfl) rfl rfl (.inr ⟨_,rfl⟩) (Heap.objs_set_same _ _ _) (Nat.le_of_ble_eq_true rfl)) ?_;try first|rw[Heap.set_set]|rw[Heap.set_under (by assumption)]
    refine .ng ?_;refine AWP.frz (t:=4) rfl (hb4) ?_;refine .ret ?_;refine Block.rt ?_;refine Next.rt ?_;refine Ret.go (.cons (.cellI _ _ _ _ rfl Tryz.isAgg27 Tryz.sizeOf27 rfl) .nil) _ (Heap.le.refl _) ?_;refine⟨?_,rfl⟩;unfold doesV;rw[if_neg (show¬inS nm from hc6),if_neg (show¬inD nm from hc22),if_pos (show inR nm from hc33),hx7];rfl
  try simp only[decide_eq_false_iff_not]at hc33
  refine AWP.seqToL [(40,.bool (decide (nm∈([[67,79,85,78,84],[67,79,85,78,84,65],[67,79,85,78,84,66,76,65,78,75]]:List (List UInt8)))))] [0,1,4,5] ?_ ?_
  · refine .sr ?_;refine .p rfl (pure_eqlStr (tm rfl) (ev_str rfl)) ?_;refine .as rfl rfl ?_;refine .ng ?_;refine AWP.cond (tm rfl) (λhc40=>?_) (λhc40=>?_)
    · try simp only[decide_eq_true_eq]at hc40
      refine .skip ?_;exact⟨rfl,(sub_e rfl (by congr 1;exact decide_eq_decide.2 (by simp_all)) (sub_c rfl (sub_c rfl (sub_c rfl (sub_c rfl sub_n))))),rfl⟩
    try simp only[decide_eq_false_iff_not]at hc40
    refine .sr ?_;refine .p rfl (pure_eqlStr (tm rfl) (ev_str rfl)) ?_;refine .as rfl rfl ?_;refine .ng ?_;refine AWP.cond (tm rfl) (λhc40=>?_) (λhc40=>?_)
    · try simp only[decide_eq_true_eq]at hc40
      refine .skip ?_;exact⟨rfl,(sub_e rfl (by congr 1;exact decide_eq_decide.2 (by simp_all)) (sub_c rfl (sub_c rfl (sub_c rfl (sub_c rfl sub_n))))),rfl⟩
    try simp only[decide_eq_false_iff_not]at hc40
    refine .region ?_;refine .p rfl (pure_eqlStr (tm rfl) (ev_str rfl)) ?_;refine .as rfl rfl ?_;refine .nil ?_;exact⟨rfl,(sub_e rfl (by congr 1;exact decide_eq_decide.2 (by simp_all)) (sub_c rfl (sub_c rfl (sub_c rfl (sub_c rfl sub_n))))),rfl⟩
  refine AWP.sub [(40,_),(0,_),(1,_),(4,_),(5,_)] (sub_c rfl (sub_c rfl (sub_c rfl (sub_c rfl (sub_c rfl sub_n))))) ?_;refine AWP.cond (tm rfl) (λhc40=>?_) (λhc40=>?_)
  · try simp only[decide_eq_true_eq]at hc40
    refine .sr ?_;refine .mv rfl rfl ?_;refine .mv rfl rfl ?_;refine .cl rfl Tryz.call34 (evs2 rfl rfl) (ccounts_calls b q po pr l tl hC.len hC.fine (by omega) nm (disjE hC.mem (by decide)) _ hb4h) ?_;refine .e0 (step_store Tryz.sizeOf27 (tm rfl) (tm rfl) rfl rfl (.inr ⟨_,rfl⟩) (Heap.objs_set_same _ _ _) (Nat.le_of_ble_eq_true rfl)) ?_;try first|rw[Heap.set_set]|rw[Heap.set_under (by assumption)]
    refine .ng ?_;refine AWP.frz (t:=4) rfl (hb4) ?_;refine .ret ?_;refine Block.rt ?_;refine Next.rt ?_;refine Ret.go (.cons (.cellI _ _ _ _ rfl Tryz.isAgg27 Tryz.sizeOf27 rfl) .nil) _ (Heap.le.refl _) ?_;refine⟨?_,rfl⟩;unfold doesV;rw[if_neg (show¬inS nm from hc6),if_neg (show¬inD nm from hc22),if_neg (show¬inR nm from hc33),if_pos (show inK nm from hc40)];rfl
  try simp only[decide_eq_false_iff_not]at hc40
  refine AWP.seqToL [(47,.bool (decide (nm∈([[65,66,83],[83,73,71,78],[73,78,84],[83,81,82,84],[69,86,69,78],[79,68,68]]:List (List UInt8)))))] [0,1,4,5] ?_ ?_
  · refine .sr ?_;refine .p rfl (pure_eqlStr (tm rfl) (ev_str rfl)) ?_;refine .as rfl rfl ?_;refine .ng ?_;refine AWP.cond (tm rfl) (λhc47=>?_) (λhc47=>?_)
    · try simp only[decide_eq_true_eq]at hc47
      refine .skip ?_;exact⟨rfl,(sub_e rfl (by congr 1;exact decide_eq_decide.2 (by simp_all)) (sub_c rfl (sub_c rfl (sub_c rfl (sub_c rfl sub_n))))),rfl⟩
    try simp only[decide_eq_false_iff_not]at hc47
    refine .sr ?_;refine .p rfl (pure_eqlStr (tm rfl) (ev_str rfl)) ?_;refine .as rfl rfl ?_;refine .ng ?_;refine AWP.cond (tm rfl) (λhc47=>?_) (λhc47=>?_)
    · try simp only[decide_eq_true_eq]at hc47
      refine .skip ?_;exact⟨rfl,(sub_e rfl (by congr 1;exact decide_eq_decide.2 (by simp_all)) (sub_c rfl (sub_c rfl (sub_c rfl (sub_c rfl sub_n))))),rfl⟩
    try simp only[decide_eq_false_iff_not]at hc47
    refine .sr ?_;refine .p rfl (pure_eqlStr (tm rfl) (ev_str rfl)) ?_;refine .as rfl rfl ?_;refine .ng ?_;refine AWP.cond (tm rfl) (λhc47=>?_) (λhc47=>?_)
    · try simp only[decide_eq_true_eq]at hc47
      refine .skip ?_;exact⟨rfl,(sub_e rfl (by congr 1;exact decide_eq_decide.2 (by simp_all)) (sub_c rfl (sub_c rfl (sub_c rfl (sub_c rfl sub_n))))),rfl⟩
    try simp only[decide_eq_false_iff_not]at hc47
    refine .sr ?_;refine .p rfl (pure_eqlStr (tm rfl) (ev_str rfl)) ?_;refine .as rfl rfl ?_;refine .ng ?_;refine AWP.cond (tm rfl) (λhc47=>?_) (λhc47=>?_)
    · try simp only[decide_eq_true_eq]at hc47
      refine .skip ?_;exact⟨rfl,(sub_e rfl (by congr 1;exact decide_eq_decide.2 (by simp_all)) (sub_c rfl (sub_c rfl (sub_c rfl (sub_c rfl sub_n))))),rfl⟩
    try simp only[decide_eq_false_iff_not]at hc47
    refine .sr ?_;refine .p rfl (pure_eqlStr (tm rfl) (ev_str rfl)) ?_;refine .as rfl rfl ?_;refine .ng ?_;refine AWP.cond (tm rfl) (λhc47=>?_) (λhc47=>?_)
    · try simp only[decide_eq_true_eq]at hc47
      refine .skip ?_;exact⟨rfl,(sub_e rfl (by congr 1;exact decide_eq_decide.2 (by simp_all)) (sub_c rfl (sub_c rfl (sub_c rfl (sub_c rfl sub_n))))),rfl⟩
    try simp only[decide_eq_false_iff_not]at hc47
    refine .region ?_;refine .p rfl (pure_eqlStr (tm rfl) (ev_str rfl)) ?_;refine .as rfl rfl ?_;refine .nil ?_;exact⟨rfl,(sub_e rfl (by congr 1;exact decide_eq_decide.2 (by simp_all)) (sub_c rfl (sub_c rfl (sub_c rfl (sub_c rfl sub_n))))),rfl⟩
  refine AWP.sub [(47,_),(0,_),(1,_),(4,_),(5,_)] (sub_c rfl (sub_c rfl (sub_c rfl (sub_c rfl (sub_c rfl sub_n))))) ?_;refine AWP.cond (tm rfl) (λhc47=>?_) (λhc47=>?_)
  · try simp only[decide_eq_true_eq]at hc47
    exact absurd hc47 (disj hC.mem (by decide))
  try simp only[decide_eq_false_iff_not]at hc47
  refine AWP.seqToL [(58,.bool (decide (nm∈([[84,82,85,78,67],[82,79,85,78,68,68,79,87,78]]:List (List UInt8)))))] [0,1,4,5] ?_ ?_
  · refine .sr ?_;refine .p rfl (pure_eqlStr (tm rfl) (ev_str rfl)) ?_;refine .as rfl rfl ?_;refine .ng ?_;refine AWP.cond (tm rfl) (λhc58=>?_) (λhc58=>?_)
    · try simp only[decide_eq_true_eq]at hc58
      refine .skip ?_;exact⟨rfl,(sub_e rfl (by congr 1;exact decide_eq_decide.2 (by simp_all)) (sub_c rfl (sub_c rfl (sub_c rfl (sub_c rfl sub_n))))),rfl⟩
    try simp only[decide_eq_false_iff_not]at hc58
    refine .region ?_;refine .p rfl (pure_eqlStr (tm rfl) (ev_str rfl)) ?_;refine .as rfl rfl ?_;refine .nil ?_;exact⟨rfl,(sub_e rfl (by congr 1;exact decide_eq_decide.2 (by simp_all)) (sub_c rfl (sub_c rfl (sub_c rfl (sub_c rfl sub_n))))),rfl⟩
  refine AWP.sub [(58,_),(0,_),(1,_),(4,_),(5,_)] (sub_c rfl (sub_c rfl (sub_c rfl (sub_c rfl (sub_c rfl sub_n))))) ?_;refine AWP.cond (tm rfl) (λhc58=>?_) (λhc58=>?_)
  · try simp only[decide_eq_true_eq]at hc58
    exact absurd hc58 (disj hC.mem (by decide))
  try simp only[decide_eq_false_iff_not]at hc58
  refine .sr ?_;refine .p rfl (pure_eqlStr (tm rfl) (ev_str rfl)) ?_;refine .as rfl rfl ?_;refine .ng ?_;refine AWP.cond (tm rfl) (λhc63=>?_) (λhc63=>?_)
  · try simp only[decide_eq_true_eq]at hc63
    exact absurd hc63 (disjE hC.mem (by decide))
  try simp only[decide_eq_false_iff_not]at hc63
  refine .sr ?_;refine .p rfl (pure_eqlStr (tm rfl) (ev_str rfl)) ?_;refine .as rfl rfl ?_;refine .ng ?_;refine AWP.cond (tm rfl) (λhc67=>?_) (λhc67=>?_)
  · try simp only[decide_eq_true_eq]at hc67
    exact absurd hc67 (disjE hC.mem (by decide))
  try simp only[decide_eq_false_iff_not]at hc67
  refine AWP.seqToL [(71,.bool (decide (nm∈([[67,69,73,76,73,78,71],[70,76,79,79,82],[77,79,68],[81,85,79,84,73,69,78,84],[80,79,87,69,82]]:List (List UInt8)))))] [0,1,4,5] ?_ ?_
  · refine .sr ?_;refine .p rfl (pure_eqlStr (tm rfl) (ev_str rfl)) ?_;refine .as rfl rfl ?_;refine .ng ?_;refine AWP.cond (tm rfl) (λhc71=>?_) (λhc71=>?_)
    · try simp only[decide_eq_true_eq]at hc71
      refine .skip ?_;exact⟨rfl,(sub_e rfl (by congr 1;exact decide_eq_decide.2 (by simp_all)) (sub_c rfl (sub_c rfl (sub_c rfl (sub_c rfl sub_n))))),rfl⟩
    try simp only[decide_eq_false_iff_not]at hc71
    refine .sr ?_;refine .p rfl (pure_eqlStr (tm rfl) (ev_str rfl)) ?_;refine .as rfl rfl ?_;refine .ng ?_;refine AWP.cond (tm rfl) (λhc71=>?_) (λhc71=>?_)
    · try simp only[decide_eq_true_eq]at hc71
      refine .skip ?_;exact⟨rfl,(sub_e rfl (by congr 1;exact decide_eq_decide.2 (by simp_all)) (sub_c rfl (sub_c rfl (sub_c rfl (sub_c rfl sub_n))))),rfl⟩
    try simp only[decide_eq_false_iff_not]at hc71
    refine .sr ?_;refine .p rfl (pure_eqlStr (tm rfl) (ev_str rfl)) ?_;refine .as rfl rfl ?_;refine .ng ?_;refine AWP.cond (tm rfl) (λhc71=>?_) (λhc71=>?_)
    · try simp only[decide_eq_true_eq]at hc71
      refine .skip ?_;exact⟨rfl,(sub_e rfl (by congr 1;exact decide_eq_decide.2 (by simp_all)) (sub_c rfl (sub_c rfl (sub_c rfl (sub_c rfl sub_n))))),rfl⟩
    try simp only[decide_eq_false_iff_not]at hc71
    refine .sr ?_;refine .p rfl (pure_eqlStr (tm rfl) (ev_str rfl)) ?_;refine .as rfl rfl ?_;refine .ng ?_;refine AWP.cond (tm rfl) (λhc71=>?_) (λhc71=>?_)
    · try simp only[decide_eq_true_eq]at hc71
      refine .skip ?_;exact⟨rfl,(sub_e rfl (by congr 1;exact decide_eq_decide.2 (by simp_all)) (sub_c rfl (sub_c rfl (sub_c rfl (sub_c rfl sub_n))))),rfl⟩
    try simp only[decide_eq_false_iff_not]at hc71
    refine .region ?_;refine .p rfl (pure_eqlStr (tm rfl) (ev_str rfl)) ?_;refine .as rfl rfl ?_;refine .nil ?_;exact⟨rfl,(sub_e rfl (by congr 1;exact decide_eq_decide.2 (by simp_all)) (sub_c rfl (sub_c rfl (sub_c rfl (sub_c rfl sub_n))))),rfl⟩
  refine AWP.sub [(71,_),(0,_),(1,_),(4,_),(5,_)] (sub_c rfl (sub_c rfl (sub_c rfl (sub_c rfl (sub_c rfl sub_n))))) ?_;refine AWP.cond (tm rfl) (λhc71=>?_) (λhc71=>?_)
  · try simp only[decide_eq_true_eq]at hc71
    exact absurd hc71 (disj hC.mem (by decide))
  try simp only[decide_eq_false_iff_not]at hc71
  refine .sr ?_;refine .p rfl (pure_eqlStr (tm rfl) (ev_str rfl)) ?_;refine .as rfl rfl ?_;refine .ng ?_;refine AWP.cond (tm rfl) (λhc80=>?_) (λhc80=>?_)
  · try simp only[decide_eq_true_eq]at hc80
    exact absurd hc80 (disjE hC.mem (by decide))
  try simp only[decide_eq_false_iff_not]at hc80
  refine AWP.seqToL [(85,.bool (decide (nm∈([[65,78,68],[79,82],[88,79,82]]:List (List UInt8)))))] [0,1,4,5] ?_ ?_
  · refine .sr ?_;refine .p rfl (pure_eqlStr (tm rfl) (ev_str rfl)) ?_;refine .as rfl rfl ?_;refine .ng ?_;refine AWP.cond (tm rfl) (λhc85=>?_) (λhc85=>?_)
    · try simp only[decide_eq_true_eq]at hc85
      refine .skip ?_;exact⟨rfl,(sub_e rfl (by congr 1;exact decide_eq_decide.2 (by simp_all)) (sub_c rfl (sub_c rfl (sub_c rfl (sub_c rfl sub_n))))),rfl⟩
    try simp only[decide_eq_false_iff_not]at hc85
    refine .sr ?_;refine .p rfl (pure_eqlStr (tm rfl) (ev_str rfl)) ?_;refine .as rfl rfl ?_;refine .ng ?_;refine AWP.cond (tm rfl) (λhc85=>?_) (λhc85=>?_)
    · try simp only[decide_eq_true_eq]at hc85
      refine .skip ?_;exact⟨rfl,(sub_e rfl (by congr 1;exact decide_eq_decide.2 (by simp_all)) (sub_c rfl (sub_c rfl (sub_c rfl (sub_c rfl sub_n))))),rfl⟩
    try simp only[decide_eq_false_iff_not]at hc85
    refine .region ?_;refine .p rfl (pure_eqlStr (tm rfl) (ev_str rfl)) ?_;refine .as rfl rfl ?_;refine .nil ?_;exact⟨rfl,(sub_e rfl (by congr 1;exact decide_eq_decide.2 (by simp_all)) (sub_c rfl (sub_c rfl (sub_c rfl (sub_c rfl sub_n))))),rfl⟩
  refine AWP.sub [(85,_),(0,_),(1,_),(4,_),(5,_)] (sub_c rfl (sub_c rfl (sub_c rfl (sub_c rfl (sub_c rfl sub_n))))) ?_;refine AWP.cond (tm rfl) (λhc85=>?_) (λhc85=>?_)
  · try simp only[decide_eq_true_eq]at hc85
    refine .sr ?_;refine .mv rfl rfl ?_;refine .mv rfl rfl ?_;refine .s rfl (step_call0 Tryz.call42 (evs1 rfl) (cbools_calls b q po pr l tl hC.len hC.fine _ hb4h)) ?_;rintro _ _ ⟨⟨tl1,rfl⟩,hH⟩;obtain rfl:=hH.symm;refine .cl rfl Tryz.call41 (evs2 rfl rfl) (logic_calls nm _ tl1 (by rw[List.length_map];omega) (by rw[List.length_map];exact hpo) _) ?_;refine .e0 (step_store Tryz.sizeOf27 (tm rfl) (tm rfl) rfl rfl (.inr ⟨_,rfl⟩) (Heap.objs_set_same _ _ _) (Nat.le_of_ble_eq_true rfl)) ?_;try first|rw[Heap.set_set]|rw[Heap.set_under (by assumption)]
    refine .ng ?_;refine AWP.frz (t:=4) rfl (hb4) ?_;refine .ret ?_;refine Block.rt ?_;refine Next.rt ?_;refine Ret.go (.cons (.cellI _ _ _ _ rfl Tryz.isAgg27 Tryz.sizeOf27 rfl) .nil) _ (Heap.le.refl _) ?_;refine⟨?_,rfl⟩;unfold doesV;rw[if_neg (show¬inS nm from hc6),if_neg (show¬inD nm from hc22),if_neg (show¬inR nm from hc33),if_neg (show¬inK nm from hc40)];rfl
  try simp only[decide_eq_false_iff_not]at hc85
  rcases cover hC.mem with h|h|h|h|h<;>contradiction
theorem store_names:putRow (Tryz.zeroCells62.toList.map AV.raw) 0 (AV.agg (nameL.map AV.str)).cells=nameL.map AV.str:=by kernel_rfl
theorem Call_calls(q:FLoc)(po pr:AV)(l:List ArgN)(tl:Tail)(nm:List UInt8)(hC:CallOK nm l)(H:Heap):ACall Tryz.prog 10 [callerA q po pr,.str nm,argsS l tl] H (λy H'=>y=(doesV nm l).av∧H'=H):=by
  obtain⟨hlo,hhi⟩:=hC.low2;refine ACall.of_body Tryz.func10 rfl Tryz.ntmps10 Tryz.results10 rfl ?_;refine .sr ?_;refine .s rfl (step_al zr27) ?_;rintro _ _ ⟨b6,hb6,rfl,hH⟩;obtain rfl:=hH.symm;refine .nr ?_;refine .e rfl (step_loadKN Tryz.isAgg62 Tryz.sizeOf62 (.global _) rfl (by decide) inv_fnames) ?_;refine .s rfl (step_al zr62) ?_;rintro _ _ ⟨b7,hb7,rfl,hH⟩;obtain rfl:=hH.symm;have hn6_7:=Heap.ne_of (b:=b6) (Heap.objs_set_same _ _ _) hb7;refine .e0 (step_store Tryz.sizeOf62 (tm rfl) (tm rfl) rfl rfl (.inr ⟨_,rfl⟩) (Heap.objs_set_same _ _ _) (Nat.le_of_ble_eq_true rfl)) ?_;rw[Heap.set_set,store_names];refine .ng ?_;refine AWP.frz (t:=7) rfl (hb7) ?_;refine .seq ?_;refine .sr ?_;refine .p rfl (pure_sliceA Tryz.underlying62 Tryz.sizeOf9 (tm rfl) rfl (by rw[maxLen_eq];decide) (λc hc=>by obtain⟨s,_,rfl⟩:=List.mem_map.1 hc;exact⟨rfl,rfl⟩)) ?_;refine .mv rfl rfl ?_;refine .cl rfl Tryz.call21 (evs2 rfl rfl) (BS_calls nameL _ _ (by decide) (by decide) _) ?_;rw[has16 hC.mem];refine .mv rfl rfl ?_;refine .p rfl (pure_extract (tm rfl) rfl) ?_;refine .p rfl (pure_extract (tm rfl) rfl) ?_;refine .as rfl rfl ?_;refine .as rfl rfl ?_;refine .nr ?_;refine .mv rfl rfl ?_;refine .p rfl (pure_not (tm rfl)) ?_;refine .ng ?_;refine AWP.cond_false (tm rfl) (by rfl) ?_;refine .skip ?_;refine Next.go ?_;refine .seq ?_;refine .sr ?_;refine .mv rfl rfl ?_;refine .cl rfl Tryz.call23 (evs1 rfl) (takes_calls hC.mem _) ?_;refine .mv rfl rfl ?_;refine .p rfl (pure_extract (tm rfl) rfl) ?_;refine .p rfl (pure_extract (tm rfl) rfl) ?_;refine .as rfl rfl ?_;refine .as rfl rfl ?_;refine .ng ?_;refine AWP.seqTo 38 (.bool (false)) [0,1,2,6] ?_ ?_
  · refine .region ?_;refine .mv rfl rfl ?_;refine .p rfl (pure_lenL Tryz.underlying44 (tm rfl)) ?_;refine .mv rfl rfl ?_;refine .p rfl (pure_lss (tm rfl) (tm rfl)) ?_;refine .mv rfl rfl ?_;refine bool_casesL (t:=33) rfl (λhg33=>?_) (λhg33=>?_)
    · have hh33:=hg33;try simp only[decide_eq_true_eq]at hh33
      refine .gn rfl rfl rfl (by assumption) ?_;refine .gn rfl rfl rfl (by assumption) ?_;refine .gn rfl rfl rfl (by assumption) ?_;refine .gn rfl rfl rfl (by assumption) ?_;refine .p rfl (pure_pickT (tm rfl) (by assumption) ev_bool) ?_;refine .nil ?_;exact⟨rfl,sub_b rfl (by(simp;omega)) (sub_c rfl (sub_c rfl (sub_c rfl (sub_c rfl sub_n)))),rfl⟩
    have hh33:=hg33;try simp only[decide_eq_false_iff_not,Int.not_lt]at hh33
    refine .gp rfl rfl rfl (by assumption) (pure_move (tm rfl)) ?_;refine .gp rfl rfl rfl (by assumption) (pure_lenL Tryz.underlying44 (tm rfl)) ?_;refine .gp rfl rfl rfl (by assumption) (pure_move (tm rfl)) ?_;refine .gp rfl rfl rfl (by assumption) (pure_gtr (tm rfl) (tm rfl)) ?_;refine .p rfl (pure_pickF (tm rfl) (by assumption) (tm rfl)) ?_;refine .nil ?_;exact⟨rfl,sub_b rfl (by(exact decide_eq_false (by omega))) (sub_c rfl (sub_c rfl (sub_c rfl (sub_c rfl sub_n)))),rfl⟩
  refine AWP.sub [(38,_),(0,_),(1,_),(2,_),(6,_)] (sub_c rfl (sub_c rfl (sub_c rfl (sub_c rfl (sub_c rfl sub_n))))) ?_;refine AWP.cond_false (tm rfl) (by rfl) ?_;refine .skip ?_;refine Next.go ?_;refine .sr ?_;refine .mv rfl rfl ?_;refine .mv rfl rfl ?_;refine .p rfl (pure_bd zr69 pl69 (.cons (tm rfl) (.inl rfl) (.cons (tm rfl) (.inl rfl) (.cons ev_int (.inl rfl) .nil)))) ?_;refine .s rfl (step_box (tm rfl) (.inr ⟨_,rfl⟩)) ?_;rintro _ _ ⟨b43,hb43,rfl,hH⟩;obtain rfl:=hH.symm;have hn6_43:=Heap.ne_of (b:=b6) (Heap.objs_set_same _ _ _) hb43;refine .as rfl rfl ?_;refine .nr ?_;refine .mv rfl rfl ?_;refine .mv rfl rfl ?_;refine .cl rfl Tryz.call24 (evs2 rfl rfl) (does_calls _ q po pr l tl nm hC _ (Heap.objs_set_same _ _ _)) ?_;refine .s rfl (step_al zr27) ?_;rintro _ _ ⟨b13,hb13,rfl,hH⟩;obtain rfl:=hH.symm;have hn6_13:=Heap.ne_of (b:=b6) ((Heap.objs_set_ne _ _ (by assumption)).trans (Heap.objs_set_same _ _ _)) hb13;have hn43_13:=Heap.ne_of (b:=b43) (Heap.objs_set_same _ _ _) hb13;refine .e0 (step_store Tryz.sizeOf27 (tm rfl) (tm rfl) rfl rfl (.inr ⟨_,rfl⟩) (Heap.objs_set_same _ _ _) (Nat.le_of_ble_eq_true rfl)) ?_;try first|rw[Heap.set_set]|rw[Heap.set_under (by assumption)]
  refine .ng ?_;refine AWP.frz (t:=13) rfl (hb13) ?_;refine .seq ?_;refine .sr ?_;refine .mv rfl rfl ?_;refine .p rfl (pure_nilCheck (tm rfl)) ?_;refine .p rfl (pure_field Tryz.underlying69 rfl Tryz.sizeOf3 (tm rfl)) ?_;refine .e rfl (step_load1 Tryz.isAgg3 (tm rfl) (Heap.objs_set_same _ _ _) rfl) ?_;refine .p rfl (pure_neq (tm rfl) ev_int) ?_;refine .ng ?_;refine AWP.cond_false (tm rfl) (by rfl) ?_;refine .skip ?_;refine Next.go ?_;refine .sr ?_;refine .p rfl (pure_loadN Tryz.isAgg27 Tryz.sizeOf27 (tm rfl) (Nat.le_of_ble_eq_true rfl)) ?_;refine .e0 (step_store Tryz.sizeOf27 (tm rfl) (tm rfl) rfl rfl (.inr ⟨_,rfl⟩) ((Heap.objs_set_ne _ _ (by assumption)).trans (Heap.objs_set_same _ _ _)) (Nat.le_of_ble_eq_true rfl)) ?_;try first|rw[Heap.set_set]|rw[Heap.set_under (by assumption)]
  refine .ng ?_;refine AWP.dropb (Heap.fresh_set hb43 _) ?_;refine AWP.frz (t:=6) rfl (hb6) ?_;refine .ret ?_;refine Ret.go (.cons (.cellI _ _ _ _ rfl Tryz.isAgg27 Tryz.sizeOf27 rfl) .nil) _ (Heap.le.refl _) ?_;exact⟨rfl,rfl⟩
end Go.Proofs.YtojblnldfdeefaaGreatDoor
