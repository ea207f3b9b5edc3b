/-
  A row of numbers: a copy of it in order; turned round.
-/
import Derived.Test.YtojblnldfdeefaaGreatDoorF1k
namespace Go.Proofs.YtojblnldfdeefaaGreatDoor
open Go Go.RowKit
set_option maxRecDepth 100000
theorem getD_app{xs p:List Nat}{i:Nat}(h:i<xs.length):(xs++p).getD i 0=xs.getD i 0:=by
  rw[List.getD_eq_getElem?_getD,List.getD_eq_getElem?_getD,List.getElem?_append_left h]
theorem swap_app{xs p:List Nat}{i j:Nat}(hi:i<xs.length)(hj:j<xs.length):swapN (xs++p) i j=swapN xs i j++p:=by
  unfold swapN;rw[getD_app hi,getD_app hj,List.set_append_left _ _ hi,List.set_append_left _ _ (by rw[List.length_set];exact hj)]
theorem insJ_app(a:Nat)(p:List Nat):∀(j:Nat)(xs:List Nat),j<xs.length→insJ a j (xs++p)=insJ a j xs++p
  |0,xs,_=>rfl
  |j+1,xs,h=>by
    unfold insJ;rw[getD_app h,getD_app (by omega),swap_app h (by omega)];split
    · exact insJ_app a p j _ (by rw[swap_len];omega)
    rfl
theorem insI_app(a b:Nat)(p:List Nat):∀(m:Nat)(xs:List Nat),b≤xs.length→insI a b m (xs++p)=insI a b m xs++p
  |0,xs,_=>rfl
  |m+1,xs,h=>by
    unfold insI;rcases Nat.eq_zero_or_pos b with h0|h0
    · subst h0;rw[Nat.zero_sub,insJ,insJ];exact insI_app a 0 p m xs h
    rw[insJ_app a p _ xs (by omega)];exact insI_app a b p m _ (by rw[insJ_len];exact h)
theorem bits_pad{xs:List Nat}(h:Bits xs)(m:Nat):Bits (xs++List.replicate m 0):=λx hx=>by
  rcases List.mem_append.1 hx with q|q
  · exact h x q
  rw[(List.mem_replicate.1 q).2];decide
theorem pad_len(xs:List Nat)(m:Nat):(xs++List.replicate m 0).length=xs.length+m:=by rw[List.length_append,List.length_replicate]
theorem insI_len(a b:Nat):∀(m:Nat)(ws:List Nat),(insI a b m ws).length=ws.length
  |0,ws=>rfl
  |m+1,ws=>by unfold insI;rw[insI_len a b m,insJ_len]
theorem swr_len(p q:Nat):∀(k i:Nat)(ws:List Nat),(swr p q k i ws).length=ws.length
  |0,_,_=>rfl
  |k+1,i,ws=>by rw[swr,swr_len,swap_len]
theorem swr_app{p q:Nat}{l:List Nat}:∀(k i:Nat)(xs:List Nat),p+(i+k)≤xs.length→q+(i+k)≤xs.length→swr p q k i (xs++l)=swr p q k i xs++l
  |0,_,_,_,_=>rfl
  |k+1,i,xs,h1,h2=>by
    rw[swr,swr,swap_app (by omega) (by omega)];exact swr_app k (i+1) _ (by rw[swap_len];omega) (by rw[swap_len];omega)
theorem rot_len(m:Nat):∀(F i j:Nat)(ws:List Nat),(rot m F i j ws).length=ws.length
  |0,_,_,_=>rfl
  |F+1,i,j,ws=>by
    rw[rot];split
    · exact swr_len _ _ _ _ _
    split
    · rw[rot_len m F,swr_len]
    rw[rot_len m F,swr_len]
theorem rot_app{m:Nat}{l:List Nat}:∀(F i j:Nat)(xs:List Nat),i≤m→m+j≤xs.length→rot m F i j (xs++l)=rot m F i j xs++l
  |0,_,_,_,_,_=>rfl
  |F+1,i,j,xs,h1,h2=>by
    rw[rot,rot];split
    · exact swr_app _ _ _ (by omega) (by omega)
    split
    · rw[swr_app _ _ _ (by omega) (by omega)];exact rot_app F _ _ _ (by omega) (by rw[swr_len];omega)
    rw[swr_app _ _ _ (by omega) (by omega)];exact rot_app F _ _ _ h1 (by rw[swr_len];omega)
theorem mvU_len:∀(k q:Nat)(ws:List Nat),(mvU k q ws).length=ws.length
  |0,_,_=>rfl
  |k+1,q,ws=>by rw[mvU,mvU_len,swap_len]
theorem mvU_app{l:List Nat}:∀(k q:Nat)(xs:List Nat),q+k<xs.length∨k=0→mvU k q (xs++l)=mvU k q xs++l
  |0,_,_,_=>rfl
  |k+1,q,xs,h=>by
    rw[mvU,mvU,swap_app (by omega) (by omega)];exact mvU_app k (q+1) _ (by rw[swap_len];omega)
theorem mvD_len(i:Nat):∀(q:Nat)(ws:List Nat),(mvD i q ws).length=ws.length
  |0,_=>rfl
  |q+1,ws=>by
    rw[mvD];split
    · rw[mvD_len i q,swap_len]
    rfl
theorem mvD_app{i:Nat}{l:List Nat}:∀(q:Nat)(xs:List Nat),q<xs.length→mvD i q (xs++l)=mvD i q xs++l
  |0,_,_=>rfl
  |q+1,xs,h=>by
    rw[mvD,mvD];split
    · rw[swap_app h (by omega)];exact mvD_app q _ (by rw[swap_len];omega)
    rfl
theorem bsr_range{f:Nat→Bool}:∀(F i j:Nat),i≤j→i≤bsr f F i j∧bsr f F i j≤j
  |0,i,j,h=>⟨Nat.le_refl _,h⟩
  |F+1,i,j,h=>by
    rw[bsr];split
    · split
      · have:=bsr_range (f:=f) F ((i+j)/2+1) j (by omega);omega
      have:=bsr_range (f:=f) F i ((i+j)/2) (by omega);omega
    exact⟨Nat.le_refl _,h⟩
theorem bsr_congr{f g:Nat→Bool}:∀(F i j:Nat),(∀h,i≤h→h<j→f h=g h)→bsr f F i j=bsr g F i j
  |0,_,_,_=>rfl
  |F+1,i,j,h=>by
    rw[bsr,bsr];split
    · rw[h _ (by omega) (by omega)];split
      · exact bsr_congr F _ _ λk h1 h2=>h k (by omega) h2
      exact bsr_congr F _ _ λk h1 h2=>h k h1 (by omega)
    rfl
theorem symS_app{a m e:Nat}{xs l:List Nat}(h1:a<m)(h2:m<e)(h3:e≤xs.length):symS a m e (xs++l)=symS a m e xs:=by
  unfold symS;refine bsr_congr _ _ _ λc hA hB=>?_;unfold symA at hA;unfold symB at hB;unfold s4f;rw[getD_app (by split at hA<;>split at hB<;>omega),getD_app (by split at hB<;>omega)]
theorem symS_range{a m e:Nat}{xs:List Nat}(h1:a<m)(h2:m<e):a≤symS a m e xs∧symS a m e xs≤m∧(a+e)/2+m≤e+symS a m e xs∧symS a m e xs≤(a+e)/2:=by
  have h:=bsr_range (f:=s4f xs ((a+e)/2+m-1)) (symB a m e-symA a m e) (symA a m e) (symB a m e) (by unfold symA symB;split<;>omega);unfold symS;generalize bsr _ _ _ _=s at h ⊢;unfold symA symB at h;split at h<;>omega
theorem symW_len{a m e s:Nat}{ws:List Nat}:(symW a m e s ws).length=ws.length:=by
  unfold symW;split
  · exact rot_len _ _ _ _ _
  rfl
theorem symW_app{a m e s:Nat}{xs l:List Nat}(h1:(a+e)/2+m≤e+s)(h3:e≤xs.length):symW a m e s (xs++l)=symW a m e s xs++l:=by
  unfold symW;split
  · exact rot_app _ _ _ _ (by omega) (by omega)
  rfl
theorem sym_len:∀(F a m e:Nat)(ws:List Nat),(sym F a m e ws).length=ws.length
  |0,_,_,_,_=>rfl
  |F+1,a,m,e,ws=>by
    rw[sym];split
    · exact mvU_len _ _ _
    split
    · exact mvD_len _ _ _
    dsimp only
    split<;>split<;>simp only[sym_len F,symW_len]
theorem sym_app{l:List Nat}:∀(F a m e:Nat)(xs:List Nat),a<m→m<e→e≤xs.length→sym F a m e (xs++l)=sym F a m e xs++l
  |0,_,_,_,_,_,_,_=>rfl
  |F+1,a,m,e,xs,h1,h2,h3=>by
    rw[sym,sym];split
    · have hb:=bsr_range (f:=s0f xs a) (e-m) m e (by omega);rw[bsr_congr (f:=s0f (xs++l) a) (g:=s0f xs a) _ _ _ λc hA hB=>by unfold s0f;rw[getD_app (by omega),getD_app (by omega)]];exact mvU_app _ _ _ (by omega)
    split
    · rw[bsr_congr (f:=s2f (xs++l) m) (g:=s2f xs m) _ _ _ λc hA hB=>by unfold s2f;rw[getD_app (by omega),getD_app (by omega)]];exact mvD_app _ _ (by omega)
    dsimp only
    rw[symS_app h1 h2 h3];obtain⟨r1,r2,r3,r4⟩:=symS_range (xs:=xs) h1 h2;generalize symS a m e xs=s at r1 r2 r3 r4 ⊢;rw[symW_app r3 h3];have hl:(symW a m e s xs).length=xs.length:=symW_len;generalize symW a m e s xs=w at hl ⊢;have hx:(if a<s∧s<(a+e)/2 then sym F a s ((a+e)/2) (w++l)else w++l)=(if a<s∧s<(a+e)/2 then sym F a s ((a+e)/2) w else w)++l:=by
      split
      · rename_i q;exact sym_app F a s _ w q.1 q.2 (by omega)
      rfl
    rw[hx];have hl2:(if a<s∧s<(a+e)/2 then sym F a s ((a+e)/2) w else w).length=xs.length:=by
      split
      · rw[sym_len,hl]
      exact hl
    generalize(if a<s∧s<(a+e)/2 then sym F a s ((a+e)/2) w else w)=w2 at hl2 ⊢;split
    · rename_i q;exact sym_app F _ _ e w2 q.1 q.2 (by omega)
    rfl
theorem sortY_len(n:Nat)(xs:List Nat):(sortY n xs).length=xs.length:=by
  unfold sortY sortI;split
  · exact insI_len _ _ _ _
  rw[insI_len,insI_len]
theorem sortY_app{n:Nat}{xs l:List Nat}(h:n≤xs.length):sortY n (xs++l)=sortY n xs++l:=by
  unfold sortY sortI;split
  · exact insI_app 0 n l _ xs h
  rw[insI_app 0 20 l 19 xs (by omega),insI_app 20 n l _ _ (by rw[insI_len];exact h)]
theorem sortX_app{n:Nat}{xs l:List Nat}(h:n≤xs.length):sortX n (xs++l)=sortX n xs++l:=by
  unfold sortX;rw[sortY_app h];split
  · exact sym_app n 0 20 n _ (by omega) (by omega) (by rw[sortY_len];exact h)
  rfl
theorem sortX_len(n:Nat)(xs:List Nat):(sortX n xs).length=xs.length:=by
  unfold sortX;split
  · rw[sym_len,sortY_len]
  exact sortY_len _ _
theorem sort_pad{n:Nat}{xs p:List Nat}(h:n=xs.length):(sortX n (xs++p)).take n=sortX n xs:=by
  rw[sortX_app (by omega),List.take_left' (by rw[sortX_len];exact h.symm)]
theorem clone_calls(xs:List Nat)(tl:Tail)(h0:0<xs.length)(hm:xs.length≤100000)(H:Heap):ACall Tryz.prog 138 [.slice 1 (U .u64 xs) tl] H (λy H'=>∃b c,y= .mslice (some ⟨b,0,none⟩) xs.length c∧H.objs b=none∧xs.length≤c∧c≤maxLen∧H'=H.set b (.box 25 (U .u64 (xs++List.replicate (c-xs.length) 0)))):=by
  refine ACall.of_body Tryz.func138 rfl Tryz.ntmps138 Tryz.results138 rfl ?_;refine .sr ?_;refine .p rfl (pure_assign (ev_nil (sz:=1) (tl:=.full))) ?_;refine .ng ?_;refine .seq ?_;refine .sr ?_;refine .mv rfl rfl ?_;refine .s rfl (step_eqlNS Tryz.underlying22 (tm rfl)) ?_;rintro _ _ ⟨bn4,hn4,rfl,hH⟩;obtain rfl:=hH.symm;refine .ng ?_;refine AWP.cond (tm rfl) (λhc4=>?_) (λhc4=>?_)
  · try simp only[decide_eq_true_eq,decide_eq_false_iff_not,Bool.not_eq_true',Bool.not_eq_false',Int.not_lt,Int.not_le,ne_eq,Decidable.not_not]at hc4
    exact absurd (congrArg List.length (hn4 hc4)) (by rw[U_len];exact(by simp only[List.length_nil];omega))
  try simp only[decide_eq_true_eq,decide_eq_false_iff_not,Bool.not_eq_true',Bool.not_eq_false',Int.not_lt,Int.not_le,ne_eq,Decidable.not_not]at hc4
  refine .skip ?_;refine Next.go ?_;refine .sr ?_;refine .e rfl (step_bs0 Tryz.underlying22 Tryz.sizeOf25 Tryz.zeroValue25) ?_;refine .mv rfl rfl ?_;refine .s rfl (step_appendM (ys:=xs) Tryz.underlying22 Tryz.underlying22 Tryz.sizeOf25 Tryz.typeInfo25 Tryz.zeroValue25 (by decide) (tm rfl) (tm rfl) (by show _*8≤_;omega) h0) ?_;rintro _ _ ⟨b7,c7,rfl,hb7,hl7,hc7,hH⟩;obtain rfl:=hH.symm;refine .as rfl rfl ?_;refine .ng ?_;refine .ret ?_;refine Ret.go (.cons (.tmp _ _ rfl) .nil) _ (Heap.le.refl _) ?_;exact⟨b7,c7,rfl,hb7,hl7,hc7,rfl⟩
theorem ord_calls(xs:List Nat)(tl:Tail)(hz:Bits xs)(h0:0<xs.length)(hm:xs.length≤100000)(H:Heap):ACall Tryz.prog 65 [.slice 1 (U .u64 xs) tl] H (λy H'=>∃b c ws,y= .mslice (some ⟨b,0,none⟩) xs.length c∧H.objs b=none∧xs.length≤ws.length∧xs.length≤c∧c≤maxLen∧Bits ws∧(xs.length<40→ws.take xs.length=sortX xs.length xs)∧H'=H.set b (.box 25 (U .u64 ws))):=by
  refine ACall.of_body Tryz.func65 rfl Tryz.ntmps65 Tryz.results65 rfl ?_;refine .sr ?_;refine .p rfl (pure_assign (ev_nil (sz:=1) (tl:=.full))) ?_;refine .nr ?_;refine .mv rfl rfl ?_;refine .s rfl (step_call0 Tryz.call138 (evs1 rfl) (clone_calls xs tl h0 hm _)) ?_;rintro _ _ ⟨b,c,rfl,hb,hlc,hcm,rfl⟩;have hpl:=pad_len xs (c-xs.length);refine .as rfl rfl ?_;refine .nr ?_;refine .mv rfl rfl ?_;refine .s rfl (step_call0 Tryz.call139 (.cons (tm rfl) (.cons (.func _) .nil)) (srt_calls b xs.length c _ (bits_pad hz _) (by omega) (by omega) _ (Heap.objs_set_same _ _ _))) ?_;rintro _ _ ⟨ws,hl,hw,hx,rfl⟩;rw[Heap.set_set];refine .nr ?_;refine .mv rfl rfl ?_;refine .as rfl rfl ?_;refine .ng ?_;refine .ret ?_;refine Ret.go (.cons (.tmp _ _ rfl) .nil) _ (Heap.le.refl _) ?_;exact⟨b,c,ws,rfl,hb,by omega,hlc,hcm,hw,λh=>by rw[hx h];exact sort_pad rfl,rfl⟩
theorem getD_swap{ws:List Nat}{i j q:Nat}(hi:i<ws.length)(hj:j<ws.length):(swapN ws i j).getD q 0=if q=j then ws.getD i 0 else if q=i then ws.getD j 0 else ws.getD q 0:=by
  unfold swapN;by_cases h1:q=j
  · subst h1;rw[if_pos rfl,List.getD_eq_getElem?_getD,List.getElem?_set_self (by rw[List.length_set];exact hj)];rfl
  rw[if_neg h1,List.getD_eq_getElem?_getD,List.getElem?_set_ne (λe=>h1 e.symm)];by_cases h2:q=i
  · subst h2;rw[if_pos rfl,List.getElem?_set_self hi];rfl
  rw[if_neg h2,List.getElem?_set_ne (λe=>h2 e.symm),←List.getD_eq_getElem?_getD]
def rev_J(b n cp:Nat)(zs:List Nat)(H:Heap):Nat→Env→Heap→Prop:=λk env H1=>∃(i j:Nat)(ws:List Nat),i+j+1=n∧ws.length=zs.length∧Bits ws∧(∀q,q<n→ws.getD q 0=if q<i∨j<q then zs.getD (n-1-q) 0 else zs.getD q 0)∧env=[(0,.mslice (some ⟨b,0,none⟩) n cp),(2,.int .i64 ((i:Nat):Int)),(3,.int .i64 ((j:Nat):Int))]∧H1=H.set b (.box 25 (U .u64 ws))∧k=j
theorem rev_next{n i j:Nat}{ws zs:List Nat}(hn:n≤ws.length)(hs:i+j+1=n)(hij:i<j)(hx:∀q,q<n→ws.getD q 0=if q<i∨j<q then zs.getD (n-1-q) 0 else zs.getD q 0):∀q,q<n→(swapN ws i j).getD q 0=if q<i+1∨j-1<q then zs.getD (n-1-q) 0 else zs.getD q 0:=by
  intro q hq;rw[getD_swap (by omega) (by omega)];by_cases h1:q=j
  · rw[if_pos h1,hx i (by omega),if_neg (by omega),if_pos (by omega),show n-1-q=i by omega]
  rw[if_neg h1];by_cases h2:q=i
  · rw[if_pos h2,hx j (by omega),if_neg (by omega),if_pos (by omega),show n-1-q=j by omega]
  rw[if_neg h2,hx q hq];by_cases h3:q<i∨j<q
  · rw[if_pos h3,if_pos (by omega)]
  rw[if_neg h3,if_neg (by omega)]
theorem rev_calls(b n cp:Nat)(zs:List Nat)(hz:Bits zs)(hn:n≤zs.length)(h0:0<n)(hn2:n≤1000000)(H:Heap)(hb:H.objs b=some (.box 25 (U .u64 zs))):ACall Tryz.prog 76 [.mslice (some ⟨b,0,none⟩) n cp] H (λ_ H'=>∃ws,ws.length=zs.length∧Bits ws∧(∀q,q<n→ws.getD q 0=zs.getD (n-1-q) 0)∧H'=H.set b (.box 25 (U .u64 ws))):=by
  refine ACall.of_body Tryz.func76 rfl Tryz.ntmps76 Tryz.results76 rfl ?_;refine .sr ?_;refine .mv rfl rfl ?_;refine .p rfl (pure_lenM Tryz.underlying22 (tm rfl)) ?_;refine .p rfl (.as (b:=.int .i64 ((n-1:Nat):Int)) (by(congr 1;omega)) (pure_sub (tm rfl) ev_int (by omega))) ?_;refine .p rfl (pure_assign ev_int) ?_;refine .as rfl rfl ?_;refine .ng ?_;refine .block ?_;refine AWP.loopW (rev_J b n cp zs H) (n-1) ⟨0,n-1,zs,by omega,rfl,hz,λq hq=>(by rw[if_neg (by omega)]),rfl,(Heap.set_self hb).symm,rfl⟩ (sub_c rfl (sub_c rfl (sub_c rfl sub_n))) (Heap.le.refl _) ?_;rintro _ _ _ ⟨i,j,ws,hij0,hl,hw,hx,rfl,rfl,hk⟩;refine .seq ?_;refine .sr ?_;refine .mv rfl rfl ?_;refine .mv rfl rfl ?_;refine .p rfl (pure_lss (tm rfl) (tm rfl)) ?_;refine .ng ?_;refine AWP.cond (tm rfl) (λhc9=>?_) (λhc9=>?_)
  · try simp only[decide_eq_true_eq]at hc9
    have hij:i<j:=by omega
    have hgp:=hw.getD i;have hgq:=hw.getD j;have hx2:=rev_next (by omega) hij0 hij hx;refine .skip ?_;refine Next.go ?_;refine .seq ?_;refine .block ?_;refine AWP.drawT (.op 0 true (.op 1 true (.op 2 true (.op 3 true (.op 4 true (.op 5 true (.op 6 true (.op 8 true (.op 9 true (.op 10 true (.two 7 (.op 11 false (.op 12 true (.op 13 false (.op 14 true (.op 15 false .done))))) 11 (.op 7 false (.op 12 true (.op 13 false (.op 14 true (.op 15 false .done)))))))))))))))) rfl (by decide+kernel) ?_;refine ATree.p rfl rfl (pure_move (tm rfl)) ?_;refine ATree.p rfl rfl (pure_move (tm rfl)) ?_;refine ATree.p rfl rfl (pure_move (tm rfl)) ?_;refine ATree.p rfl rfl (pure_move (tm rfl)) ?_;refine ATree.p rfl rfl (pure_move (tm rfl)) ?_;refine ATree.p rfl rfl (pure_move (tm rfl)) ?_;refine ATree.p rfl rfl (pure_indexW (j) Tryz.underlying22 Tryz.sizeOf25 (tm rfl) (tm rfl) (by omega) (by omega)) ?_;refine ATree.p rfl rfl (pure_move (tm rfl)) ?_;refine ATree.p rfl rfl (pure_move (tm rfl)) ?_;refine ATree.p rfl rfl (pure_indexW (i) Tryz.underlying22 Tryz.sizeOf25 (tm rfl) (tm rfl) (by omega) (by omega)) ?_;refine⟨?_,?_⟩
    · refine XTree.s rfl rfl (step_loadU Tryz.isAgg25 (tm rfl) (Heap.objs_set_same _ _ _) (by omega)) ?_;rintro _ _ ⟨rfl,hH⟩;obtain rfl:=hH.symm;refine ATree.s rfl rfl (step_loadU Tryz.isAgg25 (tm rfl) (Heap.objs_set_same _ _ _) (by omega)) ?_;rintro _ _ ⟨rfl,hH⟩;obtain rfl:=hH.symm;refine ATree.p rfl rfl (pure_indexW (i) Tryz.underlying22 Tryz.sizeOf25 (tm rfl) (tm rfl) (by omega) (by omega)) ?_;refine ATree.s0 rfl (step_storeU Tryz.sizeOf25 (tm rfl) (tm rfl) (Heap.objs_set_same _ _ _) (by omega)) ?_;rintro _ _ ⟨rfl,hH⟩;obtain rfl:=hH.symm;try first|rw[Heap.set_set]|rw[Heap.set_under (by assumption)]
      refine ATree.p rfl rfl (pure_indexW (j) Tryz.underlying22 Tryz.sizeOf25 (tm rfl) (tm rfl) (by omega) (by omega)) ?_;refine ATree.s0 rfl (step_storeU Tryz.sizeOf25 (tm rfl) (tm rfl) (Heap.objs_set_same _ _ _) (by(rw[List.length_set];omega))) ?_;rintro _ _ ⟨rfl,hH⟩;obtain rfl:=hH.symm;try first|rw[Heap.set_set]|rw[Heap.set_under (by assumption)]
      refine ATree.nil ?_;refine Block.go ?_;refine Next.go ?_;refine .region ?_;refine .mv rfl rfl ?_;refine .p rfl (.as (b:=.int .i64 ((i+1:Nat):Int)) (by rfl) (pure_add (tm rfl) ev_int (by omega))) ?_;refine .mv rfl rfl ?_;refine .p rfl (.as (b:=.int .i64 ((j-1:Nat):Int)) (by(congr 1;omega)) (pure_sub (tm rfl) ev_int (by omega))) ?_;refine .as rfl rfl ?_;refine .as rfl rfl ?_;refine .ng ?_;refine Round.mk (J:=rev_J b n cp zs H) ⟨i+1,j-1,swapN ws i j,by omega,(swap_len _ _ _).trans hl,swap_bits hw _ _,hx2,rfl,by first|rfl|(unfold swapN;rfl),rfl⟩ (sub_c rfl (sub_c rfl (sub_c rfl sub_n))) (Heap.le.refl _) (by omega)
    refine XTree.s rfl rfl (step_loadU Tryz.isAgg25 (tm rfl) (Heap.objs_set_same _ _ _) (by omega)) ?_;rintro _ _ ⟨rfl,hH⟩;obtain rfl:=hH.symm;refine ATree.s rfl rfl (step_loadU Tryz.isAgg25 (tm rfl) (Heap.objs_set_same _ _ _) (by omega)) ?_;rintro _ _ ⟨rfl,hH⟩;obtain rfl:=hH.symm;refine ATree.p rfl rfl (pure_indexW (i) Tryz.underlying22 Tryz.sizeOf25 (tm rfl) (tm rfl) (by omega) (by omega)) ?_;refine ATree.s0 rfl (step_storeU Tryz.sizeOf25 (tm rfl) (tm rfl) (Heap.objs_set_same _ _ _) (by omega)) ?_;rintro _ _ ⟨rfl,hH⟩;obtain rfl:=hH.symm;try first|rw[Heap.set_set]|rw[Heap.set_under (by assumption)]
    refine ATree.p rfl rfl (pure_indexW (j) Tryz.underlying22 Tryz.sizeOf25 (tm rfl) (tm rfl) (by omega) (by omega)) ?_;refine ATree.s0 rfl (step_storeU Tryz.sizeOf25 (tm rfl) (tm rfl) (Heap.objs_set_same _ _ _) (by(rw[List.length_set];omega))) ?_;rintro _ _ ⟨rfl,hH⟩;obtain rfl:=hH.symm;try first|rw[Heap.set_set]|rw[Heap.set_under (by assumption)]
    refine ATree.nil ?_;refine Block.go ?_;refine Next.go ?_;refine .region ?_;refine .mv rfl rfl ?_;refine .p rfl (.as (b:=.int .i64 ((i+1:Nat):Int)) (by rfl) (pure_add (tm rfl) ev_int (by omega))) ?_;refine .mv rfl rfl ?_;refine .p rfl (.as (b:=.int .i64 ((j-1:Nat):Int)) (by(congr 1;omega)) (pure_sub (tm rfl) ev_int (by omega))) ?_;refine .as rfl rfl ?_;refine .as rfl rfl ?_;refine .ng ?_;refine Round.mk (J:=rev_J b n cp zs H) ⟨i+1,j-1,swapN ws i j,by omega,(swap_len _ _ _).trans hl,swap_bits hw _ _,hx2,rfl,by first|rfl|(unfold swapN;rfl),rfl⟩ (sub_c rfl (sub_c rfl (sub_c rfl sub_n))) (Heap.le.refl _) (by omega)
  try simp only[decide_eq_false_iff_not,Int.not_lt]at hc9
  refine .exit ?_;refine Next.ex ?_;refine Next.ex ?_;refine Block.hit ?_;refine Ret.go' .nil _ (Heap.le.refl _) ?_;exact⟨ws,hl,hw,λq hq=>(by rw[hx q hq];split;rfl;(rw[show n-1-q=q by omega])),rfl⟩
end Go.Proofs.YtojblnldfdeefaaGreatDoor
