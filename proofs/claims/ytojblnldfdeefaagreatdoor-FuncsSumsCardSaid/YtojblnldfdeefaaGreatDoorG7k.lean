/-
  FuncsSums: an area of numbers and these one by one; LARGE and SMALL.
-/
import Derived.Test.YtojblnldfdeefaaGreatDoorG6k
import Derived.Test.YtojblnldfdeefaaGreatDoorHck
namespace Go.Proofs.YtojblnldfdeefaaGreatDoor
open Go Go.RowKit
set_option maxRecDepth 100000
def count_J(n b3:Nat)(H:Heap):Nat→Env→Heap→Prop:=λk env H1=>∃i:Nat,i≤n∧env=[(0,.int .i64 ((n:Nat):Int)),(3,.ptr (some ⟨b3,0,none⟩)),(4,.int .i64 ((i:Nat):Int))]∧H1=H.set b3 (.box 27 (nv (cntN (i))).cs)∧k=n-i
theorem count_calls(n:Nat)(hn:n≤25)(H:Heap):ACall Tryz.prog 14 [.int .i64 ((n:Nat):Int)] H (λy H'=>y= .int .u64 ((cntN n:Nat):Int)∧H'=H):=by
  refine ACall.of_body Tryz.func14 rfl Tryz.ntmps14 Tryz.results14 rfl ?_;refine .sr ?_;refine .p rfl (pure_assign (ev_nat 0)) ?_;refine .nr ?_;refine .cl rfl Tryz.call25 (.cons (ev_nat 0) .nil) (num0_calls _) ?_;refine .s rfl (step_al zr27) ?_;rintro _ _ ⟨b3,hb3,rfl,hH⟩;obtain rfl:=hH.symm;refine .e0 (step_store Tryz.sizeOf27 (tm rfl) (tm rfl) rfl rfl (.inr ⟨_,rfl⟩) (Heap.objs_set_same _ _ _) (Nat.le_of_ble_eq_true rfl)) ?_;try first|rw[Heap.set_set]|rw[Heap.set_under (by assumption)]
  refine .ng ?_;refine .seq ?_;refine .sr ?_;refine .p rfl (pure_assign ev_int) ?_;refine .ng ?_;refine .block ?_;refine AWP.loopW (count_J n b3 H) (n) ⟨0,Nat.zero_le _,rfl,rfl,rfl⟩ (sub_c rfl (sub_c rfl (sub_c rfl sub_n))) (Heap.le.refl _) ?_;rintro _ _ _ ⟨i,hi,rfl,rfl,hk⟩;refine .seq ?_;refine .sr ?_;refine .mv rfl rfl ?_;refine .mv rfl rfl ?_;refine .p rfl (pure_lss (tm rfl) (tm rfl)) ?_;refine .ng ?_;refine AWP.cond (tm rfl) (λhc8=>?_) (λhc8=>?_)
  · try simp only[decide_eq_true_eq]at hc8
    refine .skip ?_;refine Next.go ?_;refine .seq ?_;refine .block ?_;refine AWP.drawT (.op 1 true (.op 2 true (.op 0 false (.op 3 true (.op 4 false .done))))) rfl (by decide+kernel) ?_;refine ATree.f rfl rfl (λ_=>step_call0 Tryz.call5 (.cons (ev_nat 4607182418800017408) .nil) (num18_calls _ (by decide) _)) ?_;refine ATree.p rfl rfl (pure_bd zr72 pl72 .nil) ?_;refine ATree.s rfl rfl (step_loadN Tryz.isAgg27 Tryz.sizeOf27 (tm rfl) (Heap.objs_set_same _ _ _) (Nat.le_of_ble_eq_true rfl)) ?_;rintro _ _ ⟨rfl,hH⟩;obtain rfl:=hH.symm;refine ATree.f rfl rfl (λ_=>step_call0 Tryz.call26 (.cons (ev_str rfl) (evs3 rfl rfl rfl)) (bin_calls i (by omega) _)) ?_;refine ATree.s0 rfl (step_store Tryz.sizeOf27 (tm rfl) (tm rfl) rfl rfl (.inr ⟨_,rfl⟩) (Heap.objs_set_same _ _ _) (Nat.le_of_ble_eq_true rfl)) ?_;rintro _ _ ⟨rfl,hH⟩;obtain rfl:=hH.symm;try first|rw[Heap.set_set]|rw[Heap.set_under (by assumption)]
    refine ATree.nil ?_;refine Block.go ?_;refine Next.go ?_;refine .region ?_;refine .mv rfl rfl ?_;refine .p rfl (pure_add (tm rfl) ev_int (by omega)) ?_;refine .as rfl rfl ?_;refine .ng ?_;refine Round.mk (J:=count_J n b3 H) ⟨i+1,by omega,rfl,rfl,rfl⟩ (sub_c rfl (sub_c rfl (sub_c rfl sub_n))) (Heap.le.refl _) (by omega)
  try simp only[decide_eq_false_iff_not,Int.not_lt]at hc8
  refine .exit ?_;refine Next.ex ?_;refine Next.ex ?_;refine Block.hit ?_;refine Next.go ?_;refine .sr ?_;refine .p rfl (pure_field Tryz.underlying27 rfl Tryz.sizeOf25 (tm rfl)) ?_;refine .e rfl (step_load1 Tryz.isAgg25 (tm rfl) (Heap.objs_set_same _ _ _) rfl) ?_;refine .as rfl rfl ?_;refine .ng ?_;refine AWP.dropb (hb3) ?_;refine .ret ?_;refine Ret.go (.cons (.tmp _ _ rfl) .nil) _ (Heap.le.refl _) ?_;refine⟨?_,rfl⟩;rw[show i=n by omega];rfl
theorem first_num{xs:List Nat}{i:Nat}(h:∀x,x∈xs.take i→kindN x<3)(hi:i<xs.length)(hp:kindN (xs.getD i 0)<3):∀x,x∈xs.take (i+1)→kindN x<3:=by
  intro x hx;rw[List.take_succ_eq_append_getElem hi]at hx;rcases List.mem_append.1 hx with q|q
  · exact h x q
  rw[List.mem_singleton.1 q]
  rwa[List.getD_eq_getElem?_getD,List.getElem?_eq_getElem hi]at hp
theorem take_snocX{xs:List Nat}{i:Nat}(h:i<xs.length):(xs.take (i+1)).map nvA=(xs.take i).map nvA++[nvA (xs.getD i 0)]:=take_snocN nvA h
theorem len14:names14.length=14:=rfl
theorem not_rank{nm:List UInt8}(h:nm∈names14):¬inR nm:=(show∀x,x∈names14→¬inR x by decide) nm h
theorem in16{nm:List UInt8}(h:nm∈names14):nm∈names16:=List.mem_append_left _ h
variable{xs:List Nat}
theorem ok_area{nm:List UInt8}(hm:nm∈names14)(hz:Bits xs)(h0:0<xs.length)(h1:xs.length≤25):CallOK nm [areaA xs]:=
  ⟨in16 hm,(by show 1≤40;decide),λa ha=>by rw[List.mem_singleton.1 ha];exact area_fine hz (by omega),by rw[flat_area];exact h0,by rw[flat_area];omega,λh=>absurd h (not_rank hm),Nat.le_refl 1⟩
theorem ok_ones{nm:List UInt8}(hm:nm∈names14)(hz:Bits xs)(h0:0<xs.length)(h1:xs.length≤25):CallOK nm (xs.map oneA):=
  ⟨in16 hm,by rw[List.length_map];omega,λa ha=>by obtain⟨x,hx,rfl⟩:=List.mem_map.1 ha;exact one_fine (hz x hx),by rw[flat_ones];exact h0,by rw[flat_ones];omega,λh=>absurd h (not_rank hm),by rw[List.length_map];exact h0⟩
theorem cnt_facts:∀i,i≤25→cntN i<18446744073709551616∧(toN (cntN i)).2=0∧(toN (cntN i)).1=(i:Int):=by
  have h:(List.range 26).all (λi=>decide (cntN i<18446744073709551616∧(toN (cntN i)).2=0∧(toN (cntN i)).1=(i:Int)))=true:=by kernel_rfl
  intro i hi;exact of_decide_eq_true (List.all_eq_true.1 h i (List.mem_range.2 (by omega)))
theorem ok_rank{nm:List UInt8}{i:Nat}(hr:nm∈names16)(hz:Bits xs)(hi:1≤i)(hx:i≤xs.length)(h1:xs.length≤25):CallOK nm [areaA xs,oneA (cntN i)]:=by
  obtain⟨c1,c2,c3⟩:=cnt_facts i (by omega);have hf:flatA [areaA xs,oneA (cntN i)]=xs++[cntN i]:=rfl;refine⟨hr,(by show 2≤40;decide),λa ha=>?_,by rw[hf,List.length_append];omega,by rw[hf,List.length_append];show _+1<40;omega,λ_=>⟨areaA xs,cntN i,rfl,c1,c2,by omega,by rw[c3];show(i:Int)≤(xs.length:Int);omega,by show xs.length<40;omega⟩,(by show 1≤2;decide)⟩;rcases List.mem_cons.1 ha with rfl|ha
  · exact area_fine hz (by omega)
  rw[List.mem_singleton.1 ha];exact one_fine c1
theorem does_same{nm:List UInt8}(hm:nm∈names14):doesV nm [areaA xs]=doesV nm (xs.map oneA):=by
  unfold doesV;rw[flat_area,flat_ones,if_neg (not_rank hm),if_neg (not_rank hm)]
theorem does_large{i:Nat}(hi:i≤25):doesV [76,65,82,71,69] [areaA xs,oneA (cntN i)]=NumV ((sortX xs.length xs).getD (xs.length-i) 0):=by
  have h:=(cnt_facts i hi).2.2;unfold doesV;rw[if_neg (by decide),if_neg (by decide),if_pos (by decide)];unfold rankN;rw[if_pos (by decide)];show NumV ((sortX (flatA [areaA xs]).length (flatA [areaA xs])).getD ((flatA [areaA xs]).length-((toN (cntN i)).1).toNat) 0)=_;rw[flat_area,h,Int.toNat_natCast]
theorem does_small{i:Nat}(hi:i≤25):doesV [83,77,65,76,76] [areaA xs,oneA (cntN i)]=NumV ((sortX xs.length xs).getD (i-1) 0):=by
  have h:=(cnt_facts i hi).2.2;unfold doesV;rw[if_neg (by decide),if_neg (by decide),if_pos (by decide)];unfold rankN;rw[if_neg (by decide)];show NumV ((sortX (flatA [areaA xs]).length (flatA [areaA xs])).getD (((toN (cntN i)).1).toNat-1) 0)=_;rw[flat_area,h,Int.toNat_natCast]
def All(P:Nat→Prop)(l:List Nat):Prop:=∀x,x∈l→P x
theorem all_getD{P:Nat→Prop}(h0:P 0){l:List Nat}(h:All P l)(i:Nat):P (l.getD i 0):=by
  rw[List.getD_eq_getElem?_getD];cases e:l[i]? with
  |none=>exact h0
  |some x=>exact h x (List.mem_of_getElem? e)
theorem all_swap{P:Nat→Prop}(h0:P 0){l:List Nat}(h:All P l)(i j:Nat):All P (swapN l i j):=by
  intro x hx;unfold swapN at hx;rcases List.mem_or_eq_of_mem_set hx with q|q
  · rcases List.mem_or_eq_of_mem_set q with q|q
    · exact h x q
    rw[q];exact all_getD h0 h j
  rw[q];exact all_getD h0 h i
theorem all_insJ{P:Nat→Prop}(h0:P 0)(a:Nat):∀(j:Nat)(l:List Nat),All P l→All P (insJ a j l)
  |0,_,h=>h
  |j+1,l,h=>by
    unfold insJ;split
    · exact all_insJ h0 a j _ (all_swap h0 h _ _)
    exact h
theorem all_insI{P:Nat→Prop}(h0:P 0)(a b:Nat):∀(m:Nat)(l:List Nat),All P l→All P (insI a b m l)
  |0,_,h=>h
  |m+1,l,h=>by
    unfold insI;exact all_insI h0 a b m _ (all_insJ h0 a _ l h)
theorem all_swr{P:Nat→Prop}(h0:P 0)(p q:Nat):∀(k i:Nat)(l:List Nat),All P l→All P (swr p q k i l)
  |0,_,_,h=>h
  |k+1,i,_,h=>all_swr h0 p q k (i+1) _ (all_swap h0 h _ _)
theorem all_rot{P:Nat→Prop}(h0:P 0)(m:Nat):∀(F i j:Nat)(l:List Nat),All P l→All P (rot m F i j l)
  |0,_,_,_,h=>h
  |F+1,i,j,l,h=>by
    rw[rot];split
    · exact all_swr h0 _ _ _ _ _ h
    split
    · exact all_rot h0 m F _ _ _ (all_swr h0 _ _ _ _ _ h)
    exact all_rot h0 m F _ _ _ (all_swr h0 _ _ _ _ _ h)
theorem all_mvU{P:Nat→Prop}(h0:P 0):∀(k q:Nat)(l:List Nat),All P l→All P (mvU k q l)
  |0,_,_,h=>h
  |k+1,q,_,h=>all_mvU h0 k (q+1) _ (all_swap h0 h _ _)
theorem all_mvD{P:Nat→Prop}(h0:P 0)(i:Nat):∀(q:Nat)(l:List Nat),All P l→All P (mvD i q l)
  |0,_,h=>h
  |q+1,l,h=>by
    rw[mvD];split
    · exact all_mvD h0 i q _ (all_swap h0 h _ _)
    exact h
theorem all_symW{P:Nat→Prop}(h0:P 0)(a m e s:Nat){l:List Nat}(h:All P l):All P (symW a m e s l):=by
  unfold symW;split
  · exact all_rot h0 _ _ _ _ _ h
  exact h
theorem all_sym{P:Nat→Prop}(h0:P 0):∀(F a m e:Nat)(l:List Nat),All P l→All P (sym F a m e l)
  |0,_,_,_,_,h=>h
  |F+1,a,m,e,l,h=>by
    rw[sym];split
    · exact all_mvU h0 _ _ _ h
    split
    · exact all_mvD h0 _ _ _ h
    dsimp only
    have hw:All P (if a<symS a m e l∧symS a m e l<(a+e)/2 then sym F a (symS a m e l) ((a+e)/2) (symW a m e (symS a m e l) l)else symW a m e (symS a m e l) l):=by
      split
      · exact all_sym h0 F _ _ _ _ (all_symW h0 _ _ _ _ h)
      exact all_symW h0 _ _ _ _ h
    split
    · exact all_sym h0 F _ _ _ _ hw
    exact hw
theorem all_sort{P:Nat→Prop}(h0:P 0)(n:Nat){l:List Nat}(h:All P l):All P (sortX n l):=by
  have hy:All P (sortY n l):=by
    unfold sortY sortI;split
    · exact all_insI h0 _ _ _ _ h
    exact all_insI h0 _ _ _ _ (all_insI h0 _ _ _ _ h)
  unfold sortX;split
  · exact all_sym h0 _ _ _ _ _ hy
  exact hy
theorem sorted_kind(h:∀x,x∈xs→kindN x<3)(i:Nat):(NumV ((sortX xs.length xs).getD i 0)).kind=1:=by
  rw[num_nv (all_getD (P:=λx=>kindN x<3) (by decide) (all_sort (by decide) _ h) i)];rfl
def sums_J(which k0:Int)(xs:List Nat)(tl:Tail)(H:Heap):Nat→Env→Heap→Prop:=λk env H1=>∃(i t:Nat),i≤xs.length∧(∀x,x∈xs.take i→kindN x<3)∧env=[(0,.int .i64 which),(1,.slice 1 (U .u64 xs) tl),(2,.int .i64 k0),(8,.slice 5 ((xs.take i).map nvA) (.own t)),(9,.int .i64 ((i:Nat):Int))]∧H.le H1∧H1.toks t=true∧H.toks t=false∧k=xs.length-i
attribute [local irreducible] NumV doesV findLoc opsP
theorem Sums_step(which k0:Int)(hw: -9223372036854775808≤which∧which≤9223372036854775807)(hk0: -9223372036854775808≤k0∧k0≤9223372036854775807)(xs:List Nat)(tl:Tail)(hz:Bits xs)(hmx:xs.length≤maxLen)(H:Heap):ACall Tryz.prog 3 [.int .i64 which,.slice 1 (U .u64 xs) tl,.int .i64 k0] H (λy H'=>y= .bool true∧H'=H):=by
  have hml:=maxLen_eq;refine ACall.of_body Tryz.func3 rfl Tryz.ntmps3 Tryz.results3 rfl ?_;refine .sr ?_;refine .p rfl (pure_assign ev_bool) ?_;refine .ng ?_;refine .seq ?_;have hle2:=Heap.le.refl H;refine .region ?_;refine .cl rfl Tryz.call4 .nil (shown_calls _) ?_;refine .as rfl rfl ?_;refine .ng ?_;refine .seq ?_;refine AWP.seqTo 31 (.bool (decide (25<xs.length∨xs.length=0))) [0,1,2,6,7] ?_ ?_
  · refine .region ?_;refine .mv rfl rfl ?_;refine .p rfl (pure_not (tm rfl)) ?_;refine .mv rfl rfl ?_;refine bool_casesL (t:=22) rfl (λhg22=>?_) (λhg22=>?_)
    · have hh22:=hg22;try simp only[Bool.not_eq_true']at hh22
      refine .gn rfl rfl rfl (by assumption) ?_;refine .gn rfl rfl rfl (by assumption) ?_;refine .gn rfl rfl rfl (by assumption) ?_;refine .p rfl (pure_pickT (tm rfl) (by assumption) ev_bool) ?_;refine .mv rfl rfl ?_;refine .gn rfl rfl rfl (by rfl) ?_;refine .gn rfl rfl rfl (by rfl) ?_;refine .gn rfl rfl rfl (by rfl) ?_;refine .p rfl (pure_pickT (tm rfl) (by rfl) ev_bool) ?_;refine .nil ?_;exact⟨rfl,sub_b rfl (by(exact absurd (show(!true)=true by assumption) (by decide))) (sub_c rfl (sub_c rfl (sub_c rfl (sub_c rfl (sub_c rfl sub_n))))),rfl⟩
    have hh22:=hg22;try simp only[Bool.not_eq_false']at hh22
    refine .gp rfl rfl rfl (by rfl) (pure_move (tm rfl)) ?_;refine .gp rfl rfl rfl (by rfl) (pure_lenU Tryz.underlying22 (tm rfl)) ?_;refine .gp rfl rfl rfl (by rfl) (pure_gtr (tm rfl) ev_int) ?_;refine .p rfl (pure_pickF (tm rfl) (by rfl) (tm rfl)) ?_;refine .mv rfl rfl ?_;refine bool_casesL (t:=27) rfl (λhg27=>?_) (λhg27=>?_)
    · have hh27:=hg27;try simp only[decide_eq_true_eq]at hh27
      refine .gn rfl rfl rfl (by assumption) ?_;refine .gn rfl rfl rfl (by assumption) ?_;refine .gn rfl rfl rfl (by assumption) ?_;refine .p rfl (pure_pickT (tm rfl) (by assumption) ev_bool) ?_;refine .nil ?_;exact⟨rfl,sub_b rfl (by(exact(decide_eq_true (by omega)).symm)) (sub_c rfl (sub_c rfl (sub_c rfl (sub_c rfl (sub_c rfl sub_n))))),rfl⟩
    have hh27:=hg27;try simp only[decide_eq_false_iff_not,Int.not_lt]at hh27
    refine .gp rfl rfl rfl (by assumption) (pure_move (tm rfl)) ?_;refine .gp rfl rfl rfl (by assumption) (pure_lenU Tryz.underlying22 (tm rfl)) ?_;refine .gp rfl rfl rfl (by assumption) (pure_eql (tm rfl) ev_int) ?_;refine .p rfl (pure_pickF (tm rfl) (by assumption) (tm rfl)) ?_;refine .nil ?_;exact⟨rfl,sub_b rfl (by(exact decide_eq_decide.2 (by omega))) (sub_c rfl (sub_c rfl (sub_c rfl (sub_c rfl (sub_c rfl sub_n))))),rfl⟩
  refine AWP.sub [(31,_),(0,_),(1,_),(2,_),(6,_),(7,_)] (sub_c rfl (sub_c rfl (sub_c rfl (sub_c rfl (sub_c rfl (sub_c rfl sub_n)))))) ?_;refine AWP.cond (tm rfl) (λhc31=>?_) (λhc31=>?_)
  · try simp only[decide_eq_true_eq]at hc31
    refine .sr ?_;refine .mv rfl rfl ?_;refine .as rfl rfl ?_;refine .ng ?_;refine .ret ?_;refine Next.rt ?_;refine Ret.go (.cons (.tmp _ _ rfl) .nil) _ (hle2) ?_;exact⟨rfl,rfl⟩
  try simp only[decide_eq_false_iff_not]at hc31
  have hx0:0<xs.length:=by omega
  have hx25:xs.length≤25:=by omega
  refine .skip ?_;refine Next.go ?_;refine .sr ?_;refine .p rfl (pure_assign (ev_nil (sz:=5) (tl:=.full))) ?_;refine .ng ?_;refine .seq ?_;refine .sr ?_;refine .p rfl (pure_assign ev_int) ?_;refine .ng ?_;refine .block ?_;refine AWP.tag (t:=8) rfl (λu8 hu8=>?_);have hfu8:=Heap.fresh_of hle2 hu8;have hleu8:=Heap.le_in hle2 u8;refine AWP.loopW (sums_J which k0 xs tl H) (xs.length) ⟨0,u8,Nat.zero_le _,λx hx=>absurd hx (by simp),rfl,hleu8,Heap.toks_live_same _ _,hfu8,rfl⟩ (sub_c rfl (sub_c rfl (sub_c rfl (sub_c rfl (sub_c rfl sub_n))))) (Heap.le.refl _) ?_;rintro _ _ H1 ⟨i,t,hi,hok,rfl,hle1,hlive,hfr,rfl⟩;refine .seq ?_;refine .sr ?_;refine .mv rfl rfl ?_;refine .mv rfl rfl ?_;refine .p rfl (pure_lenU Tryz.underlying22 (tm rfl)) ?_;refine .p rfl (pure_lss (tm rfl) (tm rfl)) ?_;refine .ng ?_;refine AWP.cond (tm rfl) (λhc36=>?_) (λhc36=>?_)
  · try simp only[decide_eq_true_eq]at hc36
    have hip:i<xs.length:=by omega
    refine .skip ?_;refine Next.go ?_;refine .seq ?_;refine .block ?_;refine .sr ?_;refine .mv rfl rfl ?_;refine .mv rfl rfl ?_;refine .p rfl (pure_indexU (i) Tryz.underlying22 Tryz.sizeOf25 (tm rfl) (tm rfl) (by omega) (by omega)) ?_;refine .p rfl (pure_load1 Tryz.isAgg25 (tm rfl)) ?_;refine .cl rfl Tryz.call5 (evs1 rfl) (num18_calls _ (hz.getD _) _) ?_;refine .s rfl (step_al zr27) ?_;rintro _ _ ⟨b10,hb10,rfl,hH⟩;obtain rfl:=hH.symm;refine .e0 (step_store Tryz.sizeOf27 (tm rfl) (tm rfl) rfl rfl (.inr ⟨_,rfl⟩) (Heap.objs_set_same _ _ _) (Nat.le_of_ble_eq_true rfl)) ?_;try first|rw[Heap.set_set]|rw[Heap.set_under (by assumption)]
    refine .ng ?_;refine AWP.frz (t:=10) rfl (hb10) ?_;refine .sr ?_;refine .p rfl (pure_loadN Tryz.isAgg27 Tryz.sizeOf27 (tm rfl) (Nat.le_of_ble_eq_true rfl)) ?_;refine .cl rfl Tryz.call6 (evs1 rfl) (rRightN_calls _ (hz.getD i) _) ?_;refine .as rfl rfl ?_;refine .ng ?_;refine .seq ?_;refine .sr ?_;refine .mv rfl rfl ?_;refine .p rfl (pure_not (tm rfl)) ?_;refine .ng ?_;refine AWP.cond (tm rfl) (λhc47=>?_) (λhc47=>?_)
    · try simp only[decide_eq_false_iff_not,Bool.not_eq_true']at hc47
      refine .sr ?_;refine .p rfl (pure_assign ev_bool) ?_;refine .ng ?_;refine .ret ?_;refine Next.rt ?_;refine Block.rt ?_;refine Next.rt ?_;refine Next.rt ?_;refine Block.rt ?_;refine Next.rt ?_;refine Ret.go (.cons (.tmp _ _ rfl) .nil) _ (hle1) ?_;exact⟨rfl,rfl⟩
    try simp only[decide_eq_true_eq,Bool.not_eq_false']at hc47
    have hkp:kindN (xs.getD i 0)<3:=by simpa using hc47
    refine .skip ?_;refine Next.go ?_;refine .region ?_;refine .mv rfl rfl ?_;refine .p rfl (pure_loadN Tryz.isAgg27 Tryz.sizeOf27 (tm rfl) (Nat.le_of_ble_eq_true rfl)) ?_;refine .e rfl (step_bs1 Tryz.underlying24 Tryz.sizeOf27 Tryz.zeroValue27 rfl (tm rfl) (.inr ⟨_,rfl⟩) ⟨rfl,rfl⟩) ?_;refine .s rfl (step_append Tryz.underlying24 Tryz.underlying24 Tryz.sizeOf27 Tryz.typeInfo27 Tryz.zeroValue27 rfl (by decide) (tm rfl) (tm rfl) (by exact .own _ hlive) (by show(_+_)*48≤_;simp;try omega) (by repeat' (first|exact row_int _|exact row_n|exact row_c ⟨rfl,rfl⟩ row_n|exact row_drop (row_int _)|exact row_take (row_int _)|refine row_app ?_ ?_ |exact row_vals _)) (by repeat' (first|exact row_int _|exact row_n|exact row_c ⟨rfl,rfl⟩ row_n|exact row_drop (row_int _)|exact row_take (row_int _)|refine row_app ?_ ?_))) ?_;rintro _ _ ⟨t51,ht51,rfl,hH⟩;obtain rfl:=hH.symm;have hf51:=Heap.fresh_of hle1 ht51;have hle51:=Heap.le_in (Heap.le_out (t:=t) hle1 (by assumption)) t51;refine .as rfl rfl ?_;refine .nil ?_;refine Block.go ?_;refine Next.go ?_;refine .region ?_;refine .mv rfl rfl ?_;refine .p rfl (pure_add (tm rfl) ev_int (by omega)) ?_;refine .as rfl rfl ?_;refine .ng ?_;refine Round.mk (J:=sums_J which k0 xs tl H) ⟨i+1,t51,by omega,first_num hok hip hkp,rfl,hle51,Heap.toks_live_same _ _,hf51,rfl⟩ (sub_c rfl (sub_c rfl (sub_c rfl (sub_e rfl (slice_eq (take_snocX hip).symm) (sub_c rfl sub_n))))) (Heap.le.refl _) (by omega)
  try simp only[decide_eq_false_iff_not,Int.not_lt]at hc36
  have hil:xs.length≤i:=by omega
  rw[List.take_of_length_le hil]at hok ⊢;refine AWP.weakv (t:=8) (vsS xs .shared) rfl (Weak.slice _ _ _) ?_;refine .exit ?_;refine Next.ex ?_;refine Next.ex ?_;refine Block.hit ?_;refine Next.go ?_;refine .sr ?_;refine .cl rfl Tryz.call7 (.cons (ev_str rfl) .nil) (Find_calls _ _) ?_;refine .mv rfl rfl ?_;refine .p rfl (pure_extract (tm rfl) rfl) ?_;refine .p rfl (pure_extract (tm rfl) rfl) ?_;refine .s rfl (step_al zr32) ?_;rintro _ _ ⟨b12,hb12,rfl,hH⟩;obtain rfl:=hH.symm;refine .e0 (step_store Tryz.sizeOf32 (tm rfl) (tm rfl) rfl rfl (.inr ⟨_,rfl⟩) (Heap.objs_set_same _ _ _) (Nat.le_of_ble_eq_true rfl)) ?_;try first|rw[Heap.set_set]|rw[Heap.set_under (by assumption)]
  refine .as rfl rfl ?_;refine .ng ?_;refine AWP.frz (t:=12) rfl (hb12) ?_;refine .sr ?_;refine .p rfl (pure_loadN Tryz.isAgg32 Tryz.sizeOf32 (tm rfl) (Nat.le_of_ble_eq_true rfl)) ?_;refine .cl rfl Tryz.call8 (evs1 rfl) (fNew_calls (findLoc _).1 _) ?_;refine .as rfl rfl ?_;refine .nr ?_;refine .e rfl (step_bsN Tryz.underlying38 Tryz.sizeOf9 Tryz.zeroValue9 rfl rfl rfl (.cons (ev_str rfl) (.inl rfl) (.cons (ev_str rfl) (.inl rfl) (.cons (ev_str rfl) (.inl rfl) (.cons (ev_str rfl) (.inl rfl) (.cons (ev_str rfl) (.inl rfl) (.cons (ev_str rfl) (.inl rfl) (.cons (ev_str rfl) (.inl rfl) (.cons (ev_str rfl) (.inl rfl) (.cons (ev_str rfl) (.inl rfl) (.cons (ev_str rfl) (.inl rfl) (.cons (ev_str rfl) (.inl rfl) (.cons (ev_str rfl) (.inl rfl) (.cons (ev_str rfl) (.inl rfl) (.cons (ev_str rfl) (.inl rfl) .nil)))))))))))))) (rowq_c ⟨rfl,rfl⟩ (rowq_c ⟨rfl,rfl⟩ (rowq_c ⟨rfl,rfl⟩ (rowq_c ⟨rfl,rfl⟩ (rowq_c ⟨rfl,rfl⟩ (rowq_c ⟨rfl,rfl⟩ (rowq_c ⟨rfl,rfl⟩ (rowq_c ⟨rfl,rfl⟩ (rowq_c ⟨rfl,rfl⟩ (rowq_c ⟨rfl,rfl⟩ (rowq_c ⟨rfl,rfl⟩ (rowq_c ⟨rfl,rfl⟩ (rowq_c ⟨rfl,rfl⟩ (rowq_c ⟨rfl,rfl⟩ rowq_n))))))))))))))) ?_;refine .mv rfl rfl ?_;refine .s rfl (step_call0 Tryz.call9 (.cons (tm rfl) (.cons ev_int .nil)) (pick_calls which hw 14 (by decide) (by decide) _)) ?_;rintro _ _ ⟨⟨a,ha,rfl⟩,hH⟩;obtain rfl:=hH.symm;refine .p rfl (pure_indexL (f:=AV.str) (xs:=names14) Tryz.underlying38 Tryz.sizeOf9 (tm rfl) (tm rfl) (by omega) (by have:=len14;omega)) ?_;refine .p rfl (pure_load1 Tryz.isAgg9 (tm rfl)) ?_;refine .as rfl rfl ?_;refine .ng ?_;refine .seq ?_;refine .seq ?_;generalize hge:names14[((a:Nat):Int).toNat]'(by have:=len14;omega)=nm;have hnm:nm∈names14:=hge▸List.getElem_mem _;refine .region ?_;refine .mv rfl rfl ?_;refine .mv rfl rfl ?_;refine .mv rfl rfl ?_;refine .cl rfl Tryz.call11 (evs1 rfl) (area_calls xs (by omega) _) ?_;refine .e rfl (step_bs1 Tryz.underlying44 Tryz.sizeOf42 Tryz.zeroValue42 rfl (tm rfl) (.inr ⟨_,rfl⟩) ⟨rfl,rfl⟩) ?_;refine .cl rfl Tryz.call10 (evs3 rfl rfl rfl) (Call_calls _ _ _ [areaA xs] _ nm (ok_area hnm hz hx0 hx25) _) ?_;refine .mv rfl rfl ?_;refine .mv rfl rfl ?_;refine .mv rfl rfl ?_;refine .cl rfl Tryz.call12 (evs3 rfl rfl rfl) (asks_calls _ nm xs .shared (by omega) (doesV nm [areaA xs]) (λtl H=>by rw[does_same hnm];exact Call_calls _ _ _ _ tl nm (ok_ones hnm hz hx0 hx25) H) _) ?_;refine .p rfl (pure_neqA Tryz.eqGuardType27 (tm rfl) (tm rfl) (eqVal (doesV nm [areaA xs]) (doesV nm [areaA xs]))) ?_;refine .ng ?_;refine AWP.cond (tm rfl) (λhc73=>?_) (λhc73=>?_)
  · try simp only[decide_eq_false_iff_not,Bool.not_eq_true']at hc73
    exact absurd trivial hc73
  try simp only[decide_eq_true_eq,Bool.not_eq_false']at hc73
  refine .skip ?_;refine Next.go ?_;refine .sr ?_;refine .mv rfl rfl ?_;refine .mv rfl rfl ?_;refine .p rfl (pure_lenU Tryz.underlying22 (tm rfl)) ?_;refine .s rfl (step_call0 Tryz.call9 (evs2 rfl rfl) (pick_calls k0 hk0 xs.length hx0 (by omega) _)) ?_;rintro _ _ ⟨⟨n,hn,rfl⟩,hH⟩;obtain rfl:=hH.symm;refine .as rfl rfl ?_;refine .nr ?_;refine .mv rfl rfl ?_;refine .mv rfl rfl ?_;refine .cl rfl Tryz.call11 (evs1 rfl) (area_calls xs (by omega) _) ?_;refine .mv rfl rfl ?_;refine .p rfl (.as (b:=.int .i64 ((n+1:Nat):Int)) (by rfl) (pure_add (tm rfl) ev_int (by omega))) ?_;refine .cl rfl Tryz.call14 (evs1 rfl) (count_calls (n+1) (by omega) _) ?_;refine .cl rfl Tryz.call5 (evs1 rfl) (num18_calls _ (cnt_facts (n+1) (by omega)).1 _) ?_;refine .cl rfl Tryz.call13 (evs1 rfl) (one_calls _ _) ?_;refine .e rfl (step_bs2 Tryz.underlying44 Tryz.sizeOf42 Tryz.zeroValue42 rfl (tm rfl) (.inr ⟨_,rfl⟩) ⟨rfl,rfl⟩ (tm rfl) (.inr ⟨_,rfl⟩) ⟨rfl,rfl⟩) ?_;refine .cl rfl Tryz.call10 (.cons (tm rfl) (.cons (ev_str rfl) (evs1 rfl))) ((by have h:=λH=>Call_calls (findLoc [101,110]).1 (opsP (findLoc [101,110]).1) (.iptr readCells) [areaA xs,oneA (cntN (n+1))] .full [76,65,82,71,69] (ok_rank (by decide) hz (by omega) (by omega) hx25) H;rw[does_large (by omega)]at h;exact h _)) ?_;refine .s rfl (step_al zr27) ?_;rintro _ _ ⟨b17,hb17,rfl,hH⟩;obtain rfl:=hH.symm;refine .e0 (step_store Tryz.sizeOf27 (tm rfl) (tm rfl) rfl rfl (.inr ⟨_,rfl⟩) (Heap.objs_set_same _ _ _) (Nat.le_of_ble_eq_true rfl)) ?_;try first|rw[Heap.set_set]|rw[Heap.set_under (by assumption)]
  refine .ng ?_;refine AWP.frz (t:=17) rfl (hb17) ?_;refine .sr ?_;refine .mv rfl rfl ?_;refine .mv rfl rfl ?_;refine .cl rfl Tryz.call11 (evs1 rfl) (area_calls xs (by omega) _) ?_;refine .mv rfl rfl ?_;refine .p rfl (pure_lenU Tryz.underlying22 (tm rfl)) ?_;refine .mv rfl rfl ?_;refine .p rfl (.as (b:=.int .i64 ((xs.length-n:Nat):Int)) (by(congr 1;omega)) (pure_sub (tm rfl) (tm rfl) (by omega))) ?_;refine .cl rfl Tryz.call14 (evs1 rfl) (count_calls (xs.length-n) (by omega) _) ?_;refine .cl rfl Tryz.call5 (evs1 rfl) (num18_calls _ (cnt_facts (xs.length-n) (by omega)).1 _) ?_;refine .cl rfl Tryz.call13 (evs1 rfl) (one_calls _ _) ?_;refine .e rfl (step_bs2 Tryz.underlying44 Tryz.sizeOf42 Tryz.zeroValue42 rfl (tm rfl) (.inr ⟨_,rfl⟩) ⟨rfl,rfl⟩ (tm rfl) (.inr ⟨_,rfl⟩) ⟨rfl,rfl⟩) ?_;refine .cl rfl Tryz.call10 (.cons (tm rfl) (.cons (ev_str rfl) (evs1 rfl))) ((by have h:=λH=>Call_calls (findLoc [101,110]).1 (opsP (findLoc [101,110]).1) (.iptr readCells) [areaA xs,oneA (cntN (xs.length-n))] .full [83,77,65,76,76] (ok_rank (by decide) hz (by omega) (by omega) hx25) H;rw[does_small (by omega),show xs.length-n-1=xs.length-(n+1) by omega]at h;exact h _)) ?_;refine .s rfl (step_al zr27) ?_;rintro _ _ ⟨b18,hb18,rfl,hH⟩;obtain rfl:=hH.symm;refine .e0 (step_store Tryz.sizeOf27 (tm rfl) (tm rfl) rfl rfl (.inr ⟨_,rfl⟩) (Heap.objs_set_same _ _ _) (Nat.le_of_ble_eq_true rfl)) ?_;try first|rw[Heap.set_set]|rw[Heap.set_under (by assumption)]
  refine .ng ?_;refine AWP.frz (t:=18) rfl (hb18) ?_;refine .sr ?_;refine .p rfl (pure_loadN Tryz.isAgg27 Tryz.sizeOf27 (tm rfl) (Nat.le_of_ble_eq_true rfl)) ?_;refine .p rfl (pure_loadN Tryz.isAgg27 Tryz.sizeOf27 (tm rfl) (Nat.le_of_ble_eq_true rfl)) ?_;refine .p rfl (pure_eqlA Tryz.eqGuardType27 (tm rfl) (tm rfl) (eqVal (NumV ((sortX xs.length xs).getD (xs.length-(n+1)) 0)) (NumV ((sortX xs.length xs).getD (xs.length-(n+1)) 0)))) ?_;refine .mv rfl rfl ?_;refine bool_casesL (t:=103) rfl (λhg103=>?_) (λhg103=>?_)
  · have hh103:=hg103;try simp only[decide_eq_true_eq]at hh103
    refine .gp rfl rfl rfl (by assumption) (pure_fieldI Tryz.underlying27 rfl Tryz.sizeOf3 (tm rfl)) ?_;refine .gp rfl rfl rfl (by assumption) (pure_load1 Tryz.isAgg3 (tm rfl)) ?_;refine .gp rfl rfl rfl (by assumption) (pure_eql (tm rfl) ev_int) ?_;refine .p rfl (pure_pickT (tm rfl) (by assumption) (tm rfl)) ?_;refine .as rfl rfl ?_;refine .ng ?_;refine .ret ?_;refine Ret.go (.cons (.tmp _ _ rfl) .nil) _ (hle1) ?_;refine⟨?_,rfl⟩;exact congrArg AV.bool (decide_eq_true (sorted_kind hok _))
  have hh103:=hg103;try simp only[decide_eq_false_iff_not]at hh103
  refine .gn rfl rfl rfl (by assumption) ?_;refine .gn rfl rfl rfl (by assumption) ?_;refine .gn rfl rfl rfl (by assumption) ?_;refine .p rfl (pure_pickF (tm rfl) (by assumption) ev_bool) ?_;refine .as rfl rfl ?_;refine .ng ?_;refine .ret ?_;refine Ret.go (.cons (.tmp _ _ rfl) .nil) _ (hle1) ?_;exfalso
  simp_all
  done
end Go.Proofs.YtojblnldfdeefaaGreatDoor
