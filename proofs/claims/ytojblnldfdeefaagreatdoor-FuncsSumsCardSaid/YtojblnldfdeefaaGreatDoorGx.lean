/-
  Calls of functions of numbers: arguments; a call in memory; a row that grows in a box.
-/
import Derived.Test.YtojblnldfdeefaaGreatDoorF6k
namespace Go.Proofs.YtojblnldfdeefaaGreatDoor
open Go Go.RowKit
def vsS(l:List Nat)(tl:Tail):AV:=.slice 5 (l.map nvA) tl
structure ArgN where
  area:Bool
  cols:Int
  rows:Int
  cells:List Nat
def ArgN.cs(a:ArgN)(tl:Tail):List AV:=[.bool a.area,.int .i64 a.cols,.int .i64 a.rows,vsS a.cells tl]
def ArgN.av(a:ArgN):AV:=.agg (a.cs .shared)
def argsS(l:List ArgN)(tl:Tail):AV:=.slice 4 (l.map ArgN.av) tl
theorem row_vals(l:List Nat):∀x,x∈l.map nvA→x.row 5:=λx hx=>by
  obtain⟨i,_,rfl⟩:=List.mem_map.1 hx;exact⟨rfl,rfl⟩
structure ArgN.fine (a:ArgN):Prop where
  len:a.cells.length≤60
  bits:Bits a.cells
def flatA(l:List ArgN):List Nat:=l.flatMap ArgN.cells
def oneA(x:Nat):ArgN:=⟨false,1,1,[x]⟩
def areaA(l:List Nat):ArgN:=⟨true,(l.length:Nat),1,l⟩
theorem one_fine{x:Nat}(h:x<18446744073709551616):(oneA x).fine:=⟨(by show 1≤60;decide),λy hy=>by rw[List.mem_singleton.1 hy];exact h⟩
theorem area_fine{l:List Nat}(h:Bits l)(hl:l.length≤60):(areaA l).fine:=⟨hl,h⟩
theorem flat_bits{l:List ArgN}(h:∀a,a∈l→a.fine):Bits (flatA l):=λx hx=>by
  obtain⟨a,ha,hxa⟩:=List.mem_flatMap.1 hx;exact(h a ha).bits x hxa
theorem flat_ones:∀l:List Nat,flatA (l.map oneA)=l
  | []=>rfl
  |x::l=>by
    show [x]++flatA (l.map oneA)=_;rw[flat_ones l];rfl
theorem flat_area(l:List Nat):flatA [areaA l]=l:=List.append_nil _
def callC(cp:AV)(l:List ArgN)(tl:Tail):List AV:=[cp,argsS l tl,.int .i64 0]
def liveO:Option Nat→Heap→Heap
  |none,H=>H
  |some t,H=>H.live t
def killO:Option Nat→Heap→Heap
  |none,H=>H
  |some t,H=>H.kill t
def tlO:Option Nat→Tail
  |none=>.full
  |some t=>.own t
def NoT(o:Option Nat)(H0:Heap):Prop:=∀t,o=some t→H0.toks t=false
theorem objs_killO(o:Option Nat)(H:Heap):(killO o H).objs=H.objs:=by cases o<;>rfl
theorem objs_liveO(o:Option Nat)(H:Heap):(liveO o H).objs=H.objs:=by cases o<;>rfl
def rowI(H0:Heap)(k T:Nat)(r:Tail→AV)(H:Heap):Prop:=∃o,NoT o H0∧H=(liveO o H0).set k (.box T [r (tlO o)])
variable{H0 H:Heap}{k t2:Nat}{B B2:AObj}{o:Option Nat}
theorem kill_live(ho:NoT o H0):killO o ((liveO o H0).set k B)=H0.set k B:=by
  cases o with
  |none=>rfl
  |some t=>
    show((H0.live t).set k B).kill t=_;simp only[Heap.live,Heap.set,Heap.kill];congr 1
    funext j
    split
    · rename_i e;rw[e];exact(ho t rfl).symm
    rename_i e;simp
theorem room_live(ho:NoT o H0):Room ((liveO o H0).set k B) (tlO o) (killO o ((liveO o H0).set k B)):=by
  cases o with
  |none=>exact .full
  |some t=>exact .own t (by show(if t=t then true else _)=true;exact if_pos rfl)
theorem live_set(H:Heap):((H.set k B).live t2).set k B2=((H.live t2).set k B2):=by
  simp only[Heap.live,Heap.set];congr 1
  funext j
  split<;>rfl
theorem fresh_live(ht:((liveO o H0).set k B).toks t2=false):H0.toks t2=false:=by
  cases o with
  |none=>exact ht
  |some t=>
    have ht:(if t2=t then true else H0.toks t2)=false:=ht;split at ht
    · cases ht
    exact ht
theorem live_ne{b:Nat}(h:b≠k):((liveO o H0).set k B).objs b=H0.objs b:=by rw[Heap.objs_set_ne _ _ h,objs_liveO]
theorem U_add(l:List Nat)(x:Nat):U .u64 (l++[x])=U .u64 l++[.int .u64 (x:Int)]:=by unfold U;rw[List.map_append];rfl
end Go.Proofs.YtojblnldfdeefaaGreatDoor
namespace Go.Proofs.YtojblnldfdeefaaGreatDoor
open Go Go.RowKit
set_option maxRecDepth 100000
theorem zr32:ZR 32 [.str [],.str [],.str [],.str [],.str [],.str [],.str [],.bool false,.bool false,.slice 1 [] .full]:=ZRi Tryz.zeroValue32
theorem pl32:PL 32 [(0,1),(1,1),(2,1),(3,1),(4,1),(5,1),(6,1),(7,1),(8,1),(9,1)]:=PLi Tryz.underlying32 ⟨rfl,Tryz.sizeOf9,rfl,Tryz.sizeOf9,rfl,Tryz.sizeOf9,rfl,Tryz.sizeOf9,rfl,Tryz.sizeOf9,rfl,Tryz.sizeOf9,rfl,Tryz.sizeOf9,rfl,Tryz.sizeOf4,rfl,Tryz.sizeOf4,rfl,Tryz.sizeOf30,True.intro⟩
theorem inv_cell{W:World}(h:Inv W){n:Nat}{d:DataW Unit}{xs:List Value}(hn:(n,d)∈laidT)(hx:flatV 4 d=some xs){i:Nat}{v:Value}(hi:xs[i]?=some v):W.cell? ⟨n,i,none⟩=some v:=by
  obtain⟨T,fz,hh⟩:=h.rows n d hn xs hx;unfold World.cell?;rw[hh];simpa using hi
def strV(l:List UInt8):Value:=.string ⟨l.toArray⟩
def namesL:List (List UInt8):=[[99,104],[100,101],[101,110],[102,114],[104,105],[115,118]]
def signsL:List (List UInt8):=[[46],[226,128,153],[59],[45],[67,72,70],[44],[46],[59],[45],[226,130,172],[46],[44],[44],[45],[36],[44],[226,128,175],[59],[45],[226,130,172],[46],[44],[44],[45],[226,130,185],[44],[194,160],[59],[226,136,146],[107,114]]
theorem flat_names:flatV 4 Rows.laid_tabard_locale_names=some (namesL.map strV):=by kernel_rfl
theorem flat_signs:flatV 4 Rows.laid_tabard_locale_signs=some (signsL.map strV):=by kernel_rfl
def nameAt(i:Nat):List UInt8:=namesL.getD i []
def signAt(i:Nat):List UInt8:=signsL.getD i []
theorem map_str{l:List (List UInt8)}{i:Nat}(h:i<l.length):(l.map strV)[i]?=some (strV (l.getD i [])):=by
  rw[List.getElem?_map,List.getD_eq_getElem?_getD,List.getElem?_eq_getElem h];rfl
theorem short_names:∀i,(nameAt i).length≤maxLen:=λi=>by
  have:∀l∈namesL,l.length≤10:=by decide
  unfold nameAt;rw[List.getD_eq_getElem?_getD,maxLen_eq];cases h:namesL[i]? with
  |none=>simp
  |some l=>have:=this l (List.mem_of_getElem? h);simp only[Option.getD_some];omega
theorem short_signs:∀i,(signAt i).length≤maxLen:=λi=>by
  have:∀l∈signsL,l.length≤10:=by decide
  unfold signAt;rw[List.getD_eq_getElem?_getD,maxLen_eq];cases h:signsL[i]? with
  |none=>simp
  |some l=>have:=this l (List.mem_of_getElem? h);simp only[Option.getD_some];omega
theorem inv_name{i:Nat}(hi:i<6):∀W,Inv W→∃v,W.cell? ⟨0,0+((i:Nat):Int).toNat*1,none⟩=some v∧∀g,RelV g (.str (nameAt i)) v:=by
  intro W h;rw[show 0+((i:Nat):Int).toNat*1=i by omega];exact⟨_,inv_cell h (by simp[laidT]) flat_names (map_str (by simpa[namesL]using hi)),λg=>.str _ (short_names i)⟩
theorem inv_sign{i:Nat}(hi:i<6)(j:Nat)(hj:j<5)(o:Nat)(ho:o=i*5+j):∀W,Inv W→∃v,W.cell? ⟨1,o,none⟩=some v∧∀g,RelV g (.str (signAt (i*5+j))) v:=by
  intro W h;subst ho;exact⟨_,inv_cell h (by simp[laidT]) flat_signs (map_str (by simp[signsL];omega)),λg=>.str _ (short_signs _)⟩
structure FLoc where
  name:List UInt8
  dec:List UInt8
  grp:List UInt8
  lst:List UInt8
  minus:List UInt8
  pct:List UInt8
  cur:List UInt8
  first:Bool
  space:Bool
  sizes:List Int
def FLoc.cs(l:FLoc):List AV:=[.str l.name,.str l.dec,.str l.grp,.str l.lst,.str l.minus,.str l.pct,.str l.cur,.bool l.first,.bool l.space,.slice 1 (l.sizes.map (.int .i64)) .full]
def FLoc.none:FLoc:=⟨[],[],[],[],[],[],[],false,false,[]⟩
def locOf(i:Nat)(s:List UInt8):FLoc:=
  ⟨s,signAt (i*5),signAt (i*5+1),signAt (i*5+2),signAt (i*5+3),[37],signAt (i*5+4),decide (s=[99,104])||(decide (s=[104,105])||decide (s=[101,110])),!(decide (s=[104,105])||decide (s=[101,110])),if s=[104,105]then [3,2]else [3]⟩
def findL(s:List UInt8):Option Nat:=(List.range 6).find? λi=>decide (nameAt i=s)
theorem findL_some{s:List UInt8}{i:Nat}(hi:i<6)(h:nameAt i=s)(hl:∀j,j<i→nameAt j≠s):findL s=some i:=by
  unfold findL;rw[List.find?_eq_some_iff_append];refine⟨by simp[h],List.range i,(List.range' (i+1) (5-i)),?_,λj hj=>by simpa using hl j (by simpa using hj)⟩;have:i=0∨i=1∨i=2∨i=3∨i=4∨i=5:=by omega
  rcases this with rfl|rfl|rfl|rfl|rfl|rfl<;>rfl
theorem findL_none{s:List UInt8}(hl:∀j,j<6→nameAt j≠s):findL s=none:=by
  unfold findL;rw[List.find?_eq_none];intro j hj;simpa using hl j (by simpa using hj)
def findLoc(s:List UInt8):FLoc×Int:=match findL s with|some i=>(locOf i s,0)|none=>(FLoc.none,8)
def find_J(s:List UInt8)(b2:Nat)(H:Heap):Nat→Env→Heap→Prop:=λk env H1=>∃i:Nat,i≤6∧(∀j,j<i→nameAt j≠s)∧env=[(0,.str s),(2,.ptr (some ⟨b2,0,none⟩)),(6,.int .i64 i)]∧H1=H.set b2 (.box 32 [.str [],.str [],.str [],.str [],.str [],.str [],.str [],.bool false,.bool false,.slice 1 [] .full])∧k=6-i
theorem Find_calls(s:List UInt8)(H:Heap):ACall Tryz.prog 7 [.str s] H (λy H'=>y= .tuple [.agg (findLoc s).1.cs,.int .i64 (findLoc s).2]∧H'=H):=by
  refine ACall.of_body Tryz.func7 rfl Tryz.ntmps7 Tryz.results7 rfl ?_;refine .sr ?_;refine .s rfl (step_al zr32) ?_;rintro _ _ ⟨b2,hb2,rfl,hH⟩;obtain rfl:=hH.symm;refine .p rfl (pure_assign ev_int) ?_;refine .ng ?_;refine .seq ?_;refine .sr ?_;refine .p rfl (pure_move ev_int) ?_;refine .ng ?_;refine .block ?_;refine AWP.loopW (find_J s b2 H) (6) ⟨0,Nat.zero_le _,λj h=>absurd h (Nat.not_lt_zero _),rfl,rfl,rfl⟩ (sub_c rfl (sub_c rfl (sub_c rfl sub_n))) (Heap.le.refl _) ?_;rintro _ _ _ ⟨i,hi,hl,rfl,rfl,rfl⟩;refine .sr ?_;refine .p rfl (pure_lss (tm rfl) ev_int) ?_;refine .ng ?_;refine .seq ?_;refine AWP.cond (tm rfl) (λhc7=>?_) (λhc7=>?_)
  · try simp only[decide_eq_true_eq]at hc7
    have hi6:i<6:=by omega
    refine .skip ?_;refine Next.go ?_;refine .seq ?_;refine .block ?_;refine .sr ?_;refine .mv rfl rfl ?_;refine .as rfl rfl ?_;refine .ng ?_;refine .seq ?_;refine .sr ?_;refine .mv rfl rfl ?_;refine .p rfl (pure_indexB Tryz.underlying53 Tryz.sizeOf9 (.global _) (tm rfl) (by omega) (by omega)) ?_;refine .e rfl (step_loadK Tryz.isAgg9 (tm rfl) (inv_name hi6)) ?_;refine .mv rfl rfl ?_;refine .p rfl (pure_neqStr (tm rfl) (tm rfl)) ?_;refine .ng ?_;refine AWP.cond (tm rfl) (λhc13=>?_) (λhc13=>?_)
    · try simp only[decide_eq_false_iff_not,Bool.not_eq_true']at hc13
      refine .exit ?_;refine Next.ex ?_;refine Block.hit ?_;refine Next.go ?_;refine .region ?_;refine .p rfl (pure_add (tm rfl) ev_int (by omega)) ?_;refine .mv rfl rfl ?_;refine .ng ?_;refine Round.mk (J:=find_J s b2 H) ⟨i+1,by omega,λj hj=>by rcases Nat.lt_or_ge j i with h|h;exact hl j h;rw[show j=i by omega];exact hc13,rfl,rfl,rfl⟩ (sub_c rfl (sub_c rfl (sub_c rfl sub_n))) (Heap.le.refl _) (by omega)
    try simp only[decide_eq_true_eq,Bool.not_eq_false']at hc13
    refine .skip ?_;refine Next.go ?_;refine .seq ?_;refine AWP.draw [(0,true),(1,true),(2,true),(3,true),(4,true),(5,true),(6,true),(7,true),(8,true),(9,true),(10,true),(11,true),(12,true),(13,true),(14,true),(15,true),(16,true),(17,true),(18,true),(19,true),(20,true),(21,true),(22,true),(23,false),(24,false)] rfl (by decide+kernel) ?_;refine .p rfl rfl (pure_move (tm rfl)) ?_;refine .p rfl rfl (pure_move (tm rfl)) ?_;refine .p rfl rfl (pure_indexB Tryz.underlying55 Tryz.sizeOf54 (.global _) (tm rfl) (by omega) (by omega)) ?_;refine .p rfl rfl (pure_indexB Tryz.underlying54 Tryz.sizeOf9 (tm rfl) ev_int (by omega) (by omega)) ?_;refine APlan.f rfl rfl (λ_=>step_loadK Tryz.isAgg9 (tm rfl) (inv_sign hi6 0 (by decide) _ (by omega))) ?_;refine .p rfl rfl (pure_move (tm rfl)) ?_;refine .p rfl rfl (pure_indexB Tryz.underlying55 Tryz.sizeOf54 (.global _) (tm rfl) (by omega) (by omega)) ?_;refine .p rfl rfl (pure_indexB Tryz.underlying54 Tryz.sizeOf9 (tm rfl) ev_int (by omega) (by omega)) ?_;refine APlan.f rfl rfl (λ_=>step_loadK Tryz.isAgg9 (tm rfl) (inv_sign hi6 1 (by decide) _ (by omega))) ?_;refine .p rfl rfl (pure_move (tm rfl)) ?_;refine .p rfl rfl (pure_indexB Tryz.underlying55 Tryz.sizeOf54 (.global _) (tm rfl) (by omega) (by omega)) ?_;refine .p rfl rfl (pure_indexB Tryz.underlying54 Tryz.sizeOf9 (tm rfl) ev_int (by omega) (by omega)) ?_;refine APlan.f rfl rfl (λ_=>step_loadK Tryz.isAgg9 (tm rfl) (inv_sign hi6 2 (by decide) _ (by omega))) ?_;refine .p rfl rfl (pure_move (tm rfl)) ?_;refine .p rfl rfl (pure_indexB Tryz.underlying55 Tryz.sizeOf54 (.global _) (tm rfl) (by omega) (by omega)) ?_;refine .p rfl rfl (pure_indexB Tryz.underlying54 Tryz.sizeOf9 (tm rfl) ev_int (by omega) (by omega)) ?_;refine APlan.f rfl rfl (λ_=>step_loadK Tryz.isAgg9 (tm rfl) (inv_sign hi6 3 (by decide) _ (by omega))) ?_;refine .p rfl rfl (pure_move (tm rfl)) ?_;refine .p rfl rfl (pure_indexB Tryz.underlying55 Tryz.sizeOf54 (.global _) (tm rfl) (by omega) (by omega)) ?_;refine .p rfl rfl (pure_indexB Tryz.underlying54 Tryz.sizeOf9 (tm rfl) ev_int (by omega) (by omega)) ?_;refine APlan.f rfl rfl (λ_=>step_loadK Tryz.isAgg9 (tm rfl) (inv_sign hi6 4 (by decide) _ (by omega))) ?_;refine APlan.f rfl rfl (λ_=>step_bs1 Tryz.underlying30 Tryz.sizeOf3 Tryz.zeroValue3 rfl ev_int (.inl rfl) ⟨rfl,rfl⟩) ?_;refine .p rfl rfl (pure_bdS zr32 pl32 (.cons (tm rfl) (.inl rfl) (.cons (tm rfl) (.inl rfl) (.cons (tm rfl) (.inl rfl) (.cons (tm rfl) (.inl rfl) (.cons (tm rfl) (.inl rfl) (.cons (ev_str rfl) (.inl rfl) (.cons (tm rfl) (.inl rfl) (.cons ev_bool (.inl rfl) (.cons ev_bool (.inl rfl) (.cons (tm rfl) (.inl rfl) .nil))))))))))) ?_;refine .s rfl rfl (step_al zr32) ?_;rintro _ _ ⟨b5,hb5,rfl,hH⟩;obtain rfl:=hH.symm;have hn2_5:=Heap.ne_of (b:=b2) (Heap.objs_set_same _ _ _) hb5;refine .s0 rfl (step_store Tryz.sizeOf32 (tm rfl) (tm rfl) rfl rfl (.inr ⟨_,rfl⟩) (Heap.objs_set_same _ _ _) (Nat.le_of_ble_eq_true rfl)) ?_;rintro _ _ ⟨rfl,hH⟩;obtain rfl:=hH.symm;try first|rw[Heap.set_set]|rw[Heap.set_under (by assumption)]
    refine .nil ?_;refine Next.go ?_;refine .seq ?_;refine .sr ?_;refine .mv rfl rfl ?_;refine .ng ?_;refine .block ?_;refine .seq ?_;refine .block ?_;refine .seq ?_;refine .block ?_;refine .seq ?_;refine .block ?_;refine .seq ?_;refine .seq ?_;refine .sr ?_;refine .p rfl (pure_eqlStr (tm rfl) (ev_str rfl)) ?_;refine .as rfl rfl ?_;refine .ng ?_;refine AWP.cond (tm rfl) (λhc38=>?_) (λhc38=>?_)
    · try simp only[decide_eq_true_eq]at hc38
      refine .exit ?_;refine Next.ex ?_;refine Next.ex ?_;refine Block.hit ?_;refine Next.go ?_;refine .sr ?_;refine .p rfl (pure_field Tryz.underlying32 rfl Tryz.sizeOf4 (tm rfl)) ?_;refine .e0 (step_store Tryz.sizeOf4 (tm rfl) ev_bool rfl rfl (.inl rfl) (Heap.objs_set_same _ _ _) (Nat.le_of_ble_eq_true rfl)) ?_;try first|rw[Heap.set_set]|rw[Heap.set_under (by assumption)]
      refine .ng ?_;refine .exit ?_;refine Block.miss rfl ?_;refine Next.ex ?_;refine Block.miss rfl ?_;refine Next.ex ?_;refine Block.hit ?_;refine Next.go ?_;refine .sr ?_;refine .e rfl (step_loadN Tryz.isAgg32 Tryz.sizeOf32 (tm rfl) (Heap.objs_set_same _ _ _) (Nat.le_of_ble_eq_true rfl)) ?_;refine .e0 (step_store Tryz.sizeOf32 (tm rfl) (tm rfl) rfl rfl (.inr ⟨_,rfl⟩) ((Heap.objs_set_ne _ _ (by assumption)).trans (Heap.objs_set_same _ _ _)) (Nat.le_of_ble_eq_true rfl)) ?_;try first|rw[Heap.set_set]|rw[Heap.set_under (by assumption)]
      refine .p rfl (pure_assign ev_int) ?_;refine .ng ?_;refine AWP.dropb (Heap.fresh_set hb5 _) ?_;refine AWP.frz (t:=2) rfl (hb2) ?_;refine .ret ?_;refine Block.rt ?_;refine Next.rt ?_;refine Next.rt ?_;refine Block.rt ?_;refine Next.rt ?_;refine Ret.go (.cons (.cellI _ _ _ _ rfl Tryz.isAgg32 Tryz.sizeOf32 rfl) (.cons (.tmp _ _ rfl) .nil)) _ (Heap.le.refl _) ?_;refine⟨?_,rfl⟩;have hf:findL s=some i:=findL_some hi6 hc13 hl;simp only[packed,findLoc,hf]
      simp_all[locOf,FLoc.cs]
      all_goals rfl
    try simp only[decide_eq_false_iff_not]at hc38
    refine .skip ?_;refine Next.go ?_;refine .seq ?_;refine .sr ?_;refine .p rfl (pure_eqlStr (tm rfl) (ev_str rfl)) ?_;refine .as rfl rfl ?_;refine .ng ?_;refine AWP.cond (tm rfl) (λhc40=>?_) (λhc40=>?_)
    · try simp only[decide_eq_true_eq]at hc40
      refine .exit ?_;refine Next.ex ?_;refine Next.ex ?_;refine Block.miss rfl ?_;refine Next.ex ?_;refine Block.hit ?_;refine Next.go ?_;refine .region ?_;refine .e rfl (step_bs2 Tryz.underlying30 Tryz.sizeOf3 Tryz.zeroValue3 rfl ev_int (.inl rfl) ⟨rfl,rfl⟩ ev_int (.inl rfl) ⟨rfl,rfl⟩) ?_;refine .p rfl (pure_field Tryz.underlying32 rfl Tryz.sizeOf30 (tm rfl)) ?_;refine .e0 (step_store Tryz.sizeOf30 (tm rfl) (tm rfl) rfl rfl (.inl rfl) (Heap.objs_set_same _ _ _) (Nat.le_of_ble_eq_true rfl)) ?_;try first|rw[Heap.set_set]|rw[Heap.set_under (by assumption)]
      refine .nil ?_;refine Block.go ?_;refine Next.go ?_;refine .sr ?_;refine .p rfl (pure_field Tryz.underlying32 rfl Tryz.sizeOf4 (tm rfl)) ?_;refine .e0 (step_store Tryz.sizeOf4 (tm rfl) ev_bool rfl rfl (.inl rfl) (Heap.objs_set_same _ _ _) (Nat.le_of_ble_eq_true rfl)) ?_;try first|rw[Heap.set_set]|rw[Heap.set_under (by assumption)]
      refine .p rfl (pure_field Tryz.underlying32 rfl Tryz.sizeOf4 (tm rfl)) ?_;refine .e0 (step_store Tryz.sizeOf4 (tm rfl) ev_bool rfl rfl (.inl rfl) (Heap.objs_set_same _ _ _) (Nat.le_of_ble_eq_true rfl)) ?_;try first|rw[Heap.set_set]|rw[Heap.set_under (by assumption)]
      refine .ng ?_;refine .exit ?_;refine Block.hit ?_;refine Next.go ?_;refine .sr ?_;refine .e rfl (step_loadN Tryz.isAgg32 Tryz.sizeOf32 (tm rfl) (Heap.objs_set_same _ _ _) (Nat.le_of_ble_eq_true rfl)) ?_;refine .e0 (step_store Tryz.sizeOf32 (tm rfl) (tm rfl) rfl rfl (.inr ⟨_,rfl⟩) ((Heap.objs_set_ne _ _ (by assumption)).trans (Heap.objs_set_same _ _ _)) (Nat.le_of_ble_eq_true rfl)) ?_;try first|rw[Heap.set_set]|rw[Heap.set_under (by assumption)]
      refine .p rfl (pure_assign ev_int) ?_;refine .ng ?_;refine AWP.dropb (Heap.fresh_set hb5 _) ?_;refine AWP.frz (t:=2) rfl (hb2) ?_;refine .ret ?_;refine Block.rt ?_;refine Next.rt ?_;refine Next.rt ?_;refine Block.rt ?_;refine Next.rt ?_;refine Ret.go (.cons (.cellI _ _ _ _ rfl Tryz.isAgg32 Tryz.sizeOf32 rfl) (.cons (.tmp _ _ rfl) .nil)) _ (Heap.le.refl _) ?_;refine⟨?_,rfl⟩;have hf:findL s=some i:=findL_some hi6 hc13 hl;simp only[packed,findLoc,hf]
      simp_all[locOf,FLoc.cs]
      all_goals rfl
    try simp only[decide_eq_false_iff_not]at hc40
    refine .skip ?_;refine Next.go ?_;refine .sr ?_;refine .p rfl (pure_eqlStr (tm rfl) (ev_str rfl)) ?_;refine .as rfl rfl ?_;refine .ng ?_;refine AWP.cond (tm rfl) (λhc42=>?_) (λhc42=>?_)
    · try simp only[decide_eq_true_eq]at hc42
      refine .exit ?_;refine Next.ex ?_;refine Block.miss rfl ?_;refine Next.ex ?_;refine Block.miss rfl ?_;refine Next.ex ?_;refine Block.hit ?_;refine Next.go ?_;refine .sr ?_;refine .p rfl (pure_field Tryz.underlying32 rfl Tryz.sizeOf4 (tm rfl)) ?_;refine .e0 (step_store Tryz.sizeOf4 (tm rfl) ev_bool rfl rfl (.inl rfl) (Heap.objs_set_same _ _ _) (Nat.le_of_ble_eq_true rfl)) ?_;try first|rw[Heap.set_set]|rw[Heap.set_under (by assumption)]
      refine .p rfl (pure_field Tryz.underlying32 rfl Tryz.sizeOf4 (tm rfl)) ?_;refine .e0 (step_store Tryz.sizeOf4 (tm rfl) ev_bool rfl rfl (.inl rfl) (Heap.objs_set_same _ _ _) (Nat.le_of_ble_eq_true rfl)) ?_;try first|rw[Heap.set_set]|rw[Heap.set_under (by assumption)]
      refine .ng ?_;refine .exit ?_;refine Block.hit ?_;refine Next.go ?_;refine .sr ?_;refine .e rfl (step_loadN Tryz.isAgg32 Tryz.sizeOf32 (tm rfl) (Heap.objs_set_same _ _ _) (Nat.le_of_ble_eq_true rfl)) ?_;refine .e0 (step_store Tryz.sizeOf32 (tm rfl) (tm rfl) rfl rfl (.inr ⟨_,rfl⟩) ((Heap.objs_set_ne _ _ (by assumption)).trans (Heap.objs_set_same _ _ _)) (Nat.le_of_ble_eq_true rfl)) ?_;try first|rw[Heap.set_set]|rw[Heap.set_under (by assumption)]
      refine .p rfl (pure_assign ev_int) ?_;refine .ng ?_;refine AWP.dropb (Heap.fresh_set hb5 _) ?_;refine AWP.frz (t:=2) rfl (hb2) ?_;refine .ret ?_;refine Block.rt ?_;refine Next.rt ?_;refine Next.rt ?_;refine Block.rt ?_;refine Next.rt ?_;refine Ret.go (.cons (.cellI _ _ _ _ rfl Tryz.isAgg32 Tryz.sizeOf32 rfl) (.cons (.tmp _ _ rfl) .nil)) _ (Heap.le.refl _) ?_;refine⟨?_,rfl⟩;have hf:findL s=some i:=findL_some hi6 hc13 hl;simp only[packed,findLoc,hf]
      simp_all[locOf,FLoc.cs]
      all_goals rfl
    try simp only[decide_eq_false_iff_not]at hc42
    refine .skip ?_;refine Next.go ?_;refine .exit ?_;refine Block.miss rfl ?_;refine Next.ex ?_;refine Block.miss rfl ?_;refine Next.ex ?_;refine Block.miss rfl ?_;refine Next.ex ?_;refine Block.hit ?_;refine Next.go ?_;refine .sr ?_;refine .e rfl (step_loadN Tryz.isAgg32 Tryz.sizeOf32 (tm rfl) (Heap.objs_set_same _ _ _) (Nat.le_of_ble_eq_true rfl)) ?_;refine .e0 (step_store Tryz.sizeOf32 (tm rfl) (tm rfl) rfl rfl (.inr ⟨_,rfl⟩) ((Heap.objs_set_ne _ _ (by assumption)).trans (Heap.objs_set_same _ _ _)) (Nat.le_of_ble_eq_true rfl)) ?_;try first|rw[Heap.set_set]|rw[Heap.set_under (by assumption)]
    refine .p rfl (pure_assign ev_int) ?_;refine .ng ?_;refine AWP.dropb (Heap.fresh_set hb5 _) ?_;refine AWP.frz (t:=2) rfl (hb2) ?_;refine .ret ?_;refine Block.rt ?_;refine Next.rt ?_;refine Next.rt ?_;refine Block.rt ?_;refine Next.rt ?_;refine Ret.go (.cons (.cellI _ _ _ _ rfl Tryz.isAgg32 Tryz.sizeOf32 rfl) (.cons (.tmp _ _ rfl) .nil)) _ (Heap.le.refl _) ?_;refine⟨?_,rfl⟩;have hf:findL s=some i:=findL_some hi6 hc13 hl;simp only[packed,findLoc,hf]
    simp_all[locOf,FLoc.cs]
    all_goals rfl
  try simp only[decide_eq_false_iff_not,Int.not_lt]at hc7
  refine .exit ?_;refine Next.ex ?_;refine Next.ex ?_;refine Block.hit ?_;refine Next.go ?_;refine .sr ?_;refine .p rfl (pure_bd zr32 pl32 .nil) ?_;refine .e0 (step_store Tryz.sizeOf32 (tm rfl) (tm rfl) rfl rfl (.inr ⟨_,rfl⟩) (Heap.objs_set_same _ _ _) (Nat.le_of_ble_eq_true rfl)) ?_;try first|rw[Heap.set_set]|rw[Heap.set_under (by assumption)]
  refine .p rfl (pure_assign ev_int) ?_;refine .ng ?_;refine AWP.frz (t:=2) rfl (hb2) ?_;refine .ret ?_;refine Ret.go (.cons (.cellI _ _ _ _ rfl Tryz.isAgg32 Tryz.sizeOf32 rfl) (.cons (.tmp _ _ rfl) .nil)) _ (Heap.le.refl _) ?_;refine⟨?_,rfl⟩;have hf:findL s=none:=findL_none λj hj=>hl j (by omega);simp only[packed,findLoc,hf];rfl
def callerA(q:FLoc)(po pr:AV):AV:=.iptr (q.cs++[po,pr])
def callB(q:FLoc)(po pr:AV)(l:List ArgN)(tl:Tail):AObj:=.box 69 (callC (callerA q po pr) l tl)
theorem wrong_calls(b:Nat)(q:FLoc)(po pr:AV)(l:List ArgN)(tl:Tail)(H:Heap)(hb:H.objs b=some (callB q po pr l tl)):ACall Tryz.prog 69 [.ptr (some ⟨b,0,none⟩),.int .i64 0] H (λy H'=>y= .tuple []∧H'=H):=by
  refine ACall.of_body Tryz.func69 rfl Tryz.ntmps69 Tryz.results69 rfl ?_;refine .sr ?_;refine .mv rfl rfl ?_;refine .p rfl (pure_nilCheck (tm rfl)) ?_;refine .p rfl (pure_field Tryz.underlying69 rfl Tryz.sizeOf3 (tm rfl)) ?_;refine .e rfl (step_load1 Tryz.isAgg3 (tm rfl) (hb) rfl) ?_;refine .p rfl (pure_eql (tm rfl) ev_int) ?_;refine .ng ?_;refine AWP.cond_true (tm rfl) (by rfl) ?_;refine .region ?_;refine .mv rfl rfl ?_;refine .mv rfl rfl ?_;refine .p rfl (pure_nilCheck (tm rfl)) ?_;refine .p rfl (pure_field Tryz.underlying69 rfl Tryz.sizeOf3 (tm rfl)) ?_;refine .e0 (step_store Tryz.sizeOf3 (tm rfl) (tm rfl) rfl rfl (.inl rfl) (hb) (Nat.le_of_ble_eq_true rfl)) ?_;try first|rw[Heap.set_set]|rw[Heap.set_under (by assumption)]
  refine .nil ?_;refine Ret.go' .nil _ (Heap.le.refl _) ?_;exact⟨rfl,Heap.set_self hb⟩
theorem scalar_calls(b:Nat)(q:FLoc)(po pr:AV)(l:List ArgN)(tl:Tail)(i x:Nat)(hi:i<l.length)(hx:l[i].cells=[x])(_:l.length≤1000)(H:Heap)(hb:H.objs b=some (callB q po pr l tl)):ACall Tryz.prog 84 [.ptr (some ⟨b,0,none⟩),.int .i64 (i:Int)] H (λy H'=>y=nvA x∧H'=H):=by
  have h1:l[i].cells.length=1:=by rw[hx];rfl
  have h2:l[i].cells[0]'(by omega)=x:=by simp[hx]
  refine ACall.of_body Tryz.func84 rfl Tryz.ntmps84 Tryz.results84 rfl ?_;refine .sr ?_;refine .s rfl (step_al zr27) ?_;rintro _ _ ⟨b4,hb4,rfl,hH⟩;obtain rfl:=hH.symm;refine .ng ?_;refine .seq ?_;refine .seq ?_;have hne4:b≠b4:=by rintro rfl;rw[hb]at hb4;cases hb4
  refine .region ?_;refine .mv rfl rfl ?_;refine .p rfl (pure_nilCheck (tm rfl)) ?_;refine .p rfl (pure_field Tryz.underlying69 rfl Tryz.sizeOf44 (tm rfl)) ?_;refine .e rfl (step_load1 Tryz.isAgg44 (tm rfl) ((Heap.objs_set_ne _ _ (by assumption)).trans (by assumption)) rfl) ?_;refine .mv rfl rfl ?_;refine .p rfl (pure_indexL Tryz.underlying44 Tryz.sizeOf42 (tm rfl) (tm rfl) (by omega) (by omega)) ?_;refine .p rfl (pure_fieldI Tryz.underlying42 rfl Tryz.sizeOf24 (tm rfl)) ?_;refine .p rfl (pure_load1 Tryz.isAgg24 (tm rfl)) ?_;refine .as rfl rfl ?_;refine .nr ?_;refine .mv rfl rfl ?_;refine .p rfl (pure_lenL Tryz.underlying24 (tm rfl)) ?_;refine .p rfl (pure_eql (tm rfl) ev_int) ?_;refine .ng ?_;refine AWP.cond (tm rfl) (λhc16=>?_) (λhc16=>?_)
  · try simp only[decide_eq_true_eq]at hc16
    refine .sr ?_;refine .mv rfl rfl ?_;refine .p rfl (pure_indexL Tryz.underlying24 Tryz.sizeOf27 (tm rfl) ev_int (by omega) (by omega)) ?_;refine .p rfl (pure_loadN Tryz.isAgg27 Tryz.sizeOf27 (tm rfl) (Nat.le_of_ble_eq_true rfl)) ?_;refine .e0 (step_store Tryz.sizeOf27 (tm rfl) (tm rfl) rfl rfl (.inr ⟨_,rfl⟩) (Heap.objs_set_same _ _ _) (Nat.le_of_ble_eq_true rfl)) ?_;try first|rw[Heap.set_set]|rw[Heap.set_under (by assumption)]
    refine .ng ?_;refine AWP.frz (t:=4) rfl (hb4) ?_;refine .ret ?_;refine Next.rt ?_;refine Ret.go (.cons (.cellI _ _ _ _ rfl Tryz.isAgg27 Tryz.sizeOf27 rfl) .nil) _ (Heap.le.refl _) ?_;refine⟨?_,rfl⟩;rw[←h2];rfl
  try simp only[decide_eq_false_iff_not]at hc16
  exact absurd (show(l[i].cells.length:Int)=1 by omega) hc16
theorem number_calls(b:Nat)(q:FLoc)(po pr:AV)(l:List ArgN)(tl:Tail)(i x:Nat)(hi:i<l.length)(hx:l[i].cells=[x])(hm:l.length≤1000)(hlt:x<18446744073709551616)(H:Heap)(hb:H.objs b=some (callB q po pr l tl)):ACall Tryz.prog 36 [.ptr (some ⟨b,0,none⟩),.int .i64 (i:Int)] H (λy H'=>y= .int .u64 (x:Int)∧H'=H):=by
  refine ACall.of_body Tryz.func36 rfl Tryz.ntmps36 Tryz.results36 rfl ?_;refine .sr ?_;refine .p rfl (pure_assign ev_int) ?_;refine .ng ?_;refine .seq ?_;refine AWP.drawI (λH2=>H2.objs b=some (callB q po pr l tl)) [(0,true),(1,true),(2,true),(3,true),(4,true),(5,true),(6,true),(7,true),(8,true),(9,true),(10,true),(11,true),(12,true),(13,true),(14,true),(15,true)] (by exact hb) rfl (by decide+kernel) ?_;refine APlanI.p rfl rfl (pure_move (tm rfl)) ?_;refine APlanI.p rfl rfl (pure_nilCheck (tm rfl)) ?_;refine APlanI.p rfl rfl (pure_field Tryz.underlying69 rfl Tryz.sizeOf36 (tm rfl)) ?_;refine APlanI.f rfl rfl (λ_ hI=>step_load1 Tryz.isAgg36 (tm rfl) (hI) rfl) ?_;refine APlanI.p rfl rfl (pure_nilCheckI (tm rfl)) ?_;refine APlanI.p rfl rfl (pure_fieldI Tryz.underlying61 rfl Tryz.sizeOf56 (tm rfl)) ?_;refine APlanI.p rfl rfl (pure_load1 Tryz.isAgg56 (tm rfl)) ?_;refine APlanI.p rfl rfl (pure_move (tm rfl)) ?_;refine APlanI.p rfl rfl (pure_move (tm rfl)) ?_;refine APlanI.f rfl rfl (λ_ hI=>step_call0 Tryz.call84 (evs2 rfl rfl) (scalar_calls b q po pr l tl _ x hi hx hm _ (by assumption))) ?_;refine APlanI.f rfl rfl (λ_ hI=>step_call0 Tryz.call70 (evs2 rfl rfl) (ToNum_calls _ x hlt _)) ?_;refine APlanI.p rfl rfl (pure_move (tm rfl)) ?_;refine APlanI.p rfl rfl (pure_extract (tm rfl) rfl) ?_;refine APlanI.p rfl rfl (pure_extract (tm rfl) rfl) ?_;refine APlanI.p rfl rfl (pure_assign (tm rfl)) ?_;refine APlanI.p rfl rfl (pure_assign (tm rfl)) ?_;refine APlanI.nil ?_;refine Next.go ?_;refine .sr ?_;refine .mv rfl rfl ?_;refine .mv rfl rfl ?_;refine .cl rfl Tryz.call69 (evs2 rfl rfl) (wrong_calls b q po pr l tl _ (by assumption)) ?_;refine .nr ?_;refine .mv rfl rfl ?_;refine .as rfl rfl ?_;refine .ng ?_;refine .ret ?_;refine Ret.go (.cons (.tmp _ _ rfl) .nil) _ (Heap.le.refl _) ?_;exact⟨rfl,rfl⟩
theorem whole_calls(b:Nat)(q:FLoc)(po pr:AV)(l:List ArgN)(tl:Tail)(i x:Nat)(hi:i<l.length)(hx:l[i].cells=[x])(hm:l.length≤1000)(hlt:x<18446744073709551616)(ht:(toN x).2=0)(H:Heap)(hb:H.objs b=some (callB q po pr l tl)):ACall Tryz.prog 40 [.ptr (some ⟨b,0,none⟩),.int .i64 (i:Int)] H (λy H'=>y= .int .i64 (toN x).1∧H'=H):=by
  refine ACall.of_body Tryz.func40 rfl Tryz.ntmps40 Tryz.results40 rfl ?_;refine .sr ?_;refine .p rfl (pure_assign ev_int) ?_;refine .nr ?_;refine .mv rfl rfl ?_;refine .p rfl (pure_nilCheck (tm rfl)) ?_;refine .p rfl (pure_field Tryz.underlying69 rfl Tryz.sizeOf3 (tm rfl)) ?_;refine .e rfl (step_load1 Tryz.isAgg3 (tm rfl) (hb) rfl) ?_;refine .as rfl rfl ?_;refine .nr ?_;refine .mv rfl rfl ?_;refine .mv rfl rfl ?_;refine .cl rfl Tryz.call36 (evs2 rfl rfl) (number_calls b q po pr l tl _ x hi hx hm hlt _ (by assumption)) ?_;refine .as rfl rfl ?_;refine .nr ?_;refine .mv rfl rfl ?_;refine .cl rfl Tryz.call72 (.cons (tm rfl) (.cons ev_int .nil)) (fTo_calls _ hlt _) ?_;refine .mv rfl rfl ?_;refine .p rfl (pure_extract (tm rfl) rfl) ?_;refine .p rfl (pure_extract (tm rfl) rfl) ?_;refine .as rfl rfl ?_;refine .as rfl rfl ?_;refine .ng ?_;refine .seq ?_;refine AWP.seqTo 30 (.bool (false)) [0,4,7] ?_ ?_
  · refine .region ?_;refine .mv rfl rfl ?_;refine .p rfl (pure_neq (tm rfl) ev_int) ?_;refine .mv rfl rfl ?_;refine bool_casesL (t:=23) rfl (λhg23=>?_) (λhg23=>?_)
    · refine .gp rfl rfl rfl (by assumption) (pure_move (tm rfl)) ?_;refine .gp rfl rfl rfl (by assumption) (pure_move (tm rfl)) ?_;refine .gp rfl rfl rfl (by assumption) (pure_nilCheck (tm rfl)) ?_;refine .gp rfl rfl rfl (by assumption) (pure_field Tryz.underlying69 rfl Tryz.sizeOf3 (tm rfl)) ?_;refine .gs rfl rfl rfl (by assumption) (step_load1 Tryz.isAgg3 (tm rfl) (hb) rfl) ?_;rintro _ _ ⟨rfl,hH⟩;obtain rfl:=hH.symm;refine .gp rfl rfl rfl (by assumption) (pure_eql (tm rfl) (tm rfl)) ?_;refine .p rfl (pure_pickT (tm rfl) (by assumption) (tm rfl)) ?_;refine .nil ?_;exact⟨rfl,sub_b rfl (by(exfalso;simp_all;done)) (sub_c rfl (sub_c rfl (sub_c rfl sub_n))),rfl⟩
    refine .gn rfl rfl rfl (by assumption) ?_;refine .gn rfl rfl rfl (by assumption) ?_;refine .gn rfl rfl rfl (by assumption) ?_;refine .gn rfl rfl rfl (by assumption) ?_;refine .gn rfl rfl rfl (by assumption) ?_;refine .gn rfl rfl rfl (by assumption) ?_;refine .p rfl (pure_pickF (tm rfl) (by assumption) ev_bool) ?_;refine .nil ?_;exact⟨rfl,sub_b rfl (by rfl) (sub_c rfl (sub_c rfl (sub_c rfl sub_n))),rfl⟩
  refine AWP.sub [(30,_),(0,_),(4,_),(7,_)] (sub_c rfl (sub_c rfl (sub_c rfl (sub_c rfl sub_n)))) ?_;refine AWP.cond_false (tm rfl) (by rfl) ?_;refine .skip ?_;refine Next.go ?_;refine .sr ?_;refine .mv rfl rfl ?_;refine .as rfl rfl ?_;refine .ng ?_;refine .ret ?_;refine Ret.go (.cons (.tmp _ _ rfl) .nil) _ (Heap.le.refl _) ?_;exact⟨rfl,rfl⟩
end Go.Proofs.YtojblnldfdeefaaGreatDoor
namespace Go.Proofs.YtojblnldfdeefaaGreatDoor
open Go Go.RowKit
set_option maxRecDepth 100000
theorem zr42:ZR 42 [.bool false,.int .i64 0,.int .i64 0,.slice 5 [] .full]:=ZRi Tryz.zeroValue42
theorem pl42:PL 42 [(0,1),(1,1),(2,1),(3,1)]:=PLi Tryz.underlying42 ⟨rfl,Tryz.sizeOf4,rfl,Tryz.sizeOf3,rfl,Tryz.sizeOf3,rfl,Tryz.sizeOf24,True.intro⟩
def overF{σ:Type}(step:σ→Nat→σ)(l:List ArgN)(s:σ):σ:=l.foldl (λs a=>a.cells.foldl step s) s
theorem overF_flat{σ:Type}{step:σ→Nat→σ}:∀(l:List ArgN)(s:σ),overF step l s=(flatA l).foldl step s
  | [],_=>rfl
  |a::l,s=>by
    show overF step l (a.cells.foldl step s)=(a.cells++flatA l).foldl step s;rw[overF_flat l,List.foldl_append]
theorem overF_drop{σ:Type}{step:σ→Nat→σ}{l:List ArgN}{i:Nat}(h:i<l.length)(s:σ):overF step (l.drop i) s=overF step (l.drop (i+1)) (l[i].cells.foldl step s):=by
  rw[List.drop_eq_getElem_cons h];rfl
theorem cellsF_drop{σ:Type}{step:σ→Nat→σ}{l:List Nat}{i:Nat}(h:i<l.length)(s:σ):(l.drop i).foldl step s=(l.drop (i+1)).foldl step (step s l[i]):=by
  rw[List.drop_eq_getElem_cons h];rfl
section
variable{σ:Type}(step:σ→Nat→σ)(mu:σ→Nat)(I:σ→Heap→Prop)
def gover_J(fn:FuncId)(cap:List AV)(l:List ArgN)(tl:Tail)(s:σ):Nat→Env→Heap→Prop:=λk env H1=>∃(i:Nat)(s1:σ),i≤l.length∧overF step (l.drop i) s1=overF step l s∧env=[(2,.iptr [.func fn cap]),(8,argsS l tl),(9,.int .i64 ((l.length:Nat):Int)),(10,.int .i64 ((i:Nat):Int))]∧I s1 H1∧mu s1+60*(l.length-i)≤100000∧k=l.length-i
def gcell_J(fn:FuncId)(cap:List AV)(l:List ArgN)(tl:Tail)(i:Nat)(a:ArgN)(s:σ):Nat→Env→Heap→Prop:=λk env H1=>∃(j:Nat)(s1:σ),j≤a.cells.length∧(a.cells.drop j).foldl step s1=a.cells.foldl step s∧env=[(2,.iptr [.func fn cap]),(8,argsS l tl),(9,.int .i64 ((l.length:Nat):Int)),(10,.int .i64 ((i:Nat):Int)),(5,.iptr (a.cs .shared)),(15,vsS a.cells .shared),(16,.int .i64 ((a.cells.length:Nat):Int)),(17,.int .i64 ((j:Nat):Int))]∧I s1 H1∧mu s1+(a.cells.length-j)+60*(l.length-(i+1))≤100000∧k=a.cells.length-j
theorem gover_calls(fn:FuncId)(cap:List AV)(hent:∀args w,(callFunc fn args).run Tryz.prog w= .ok (.enter fn args) w)(hmu:∀s x,mu (step s x)≤mu s+1)(hf:∀s x a H,x<18446744073709551616→mu s≤100000→I s H→ACall Tryz.prog fn (nvA x::.bool a::cap) H (λ_ H'=>I (step s x) H'))(l:List ArgN)(tl:Tail)(hl:l.length≤40)(ha:∀a,a∈l→a.fine)(s:σ)(h0:mu s=0)(H:Heap)(hI:I s H):ACall Tryz.prog 71 [.agg [.func fn cap],argsS l tl] H (λ_ H'=>I (overF step l s) H'∧mu (overF step l s)≤100000):=by
  refine ACall.of_body Tryz.func71 rfl Tryz.ntmps71 Tryz.results71 rfl ?_;refine .sr ?_;refine .e rfl (step_boxI (tm rfl) (.inr ⟨_,rfl⟩)) ?_;refine .nr ?_;refine .mv rfl rfl ?_;refine .p rfl (pure_lenL Tryz.underlying44 (tm rfl)) ?_;refine .p rfl (pure_move ev_int) ?_;refine .ng ?_;refine .block ?_;refine AWP.loopW (gover_J step mu I fn cap l tl s) (l.length) ⟨0,s,Nat.zero_le _,rfl,rfl,hI,by omega,rfl⟩ (sub_c rfl (sub_c rfl (sub_c rfl (sub_c rfl sub_n)))) (Heap.le.refl _) ?_;rintro _ _ H ⟨i,s1,hi,hs,rfl,hI,hm,hk⟩;refine .sr ?_;refine .p rfl (pure_lss (tm rfl) (tm rfl)) ?_;refine .ng ?_;refine .seq ?_;refine AWP.cond (tm rfl) (λhc11=>?_) (λhc11=>?_)
  · try simp only[decide_eq_true_eq]at hc11
    have hil:i<l.length:=by omega
    have hal:=ha _ (List.getElem_mem hil);have hln:=hal.len;rw[overF_drop hil]at hs;refine .skip ?_;refine Next.go ?_;refine .seq ?_;refine .block ?_;refine .sr ?_;refine .p rfl (pure_indexL Tryz.underlying44 Tryz.sizeOf42 (tm rfl) (tm rfl) (by omega) (by omega)) ?_;refine .p rfl (pure_loadN Tryz.isAgg42 Tryz.sizeOf42 (tm rfl) (Nat.le_of_ble_eq_true rfl)) ?_;refine .s rfl (step_al zr42) ?_;rintro _ _ ⟨b5,hb5,rfl,hH⟩;obtain rfl:=hH.symm;refine .e0 (step_store Tryz.sizeOf42 (tm rfl) (tm rfl) rfl rfl (.inr ⟨_,rfl⟩) (Heap.objs_set_same _ _ _) (Nat.le_of_ble_eq_true rfl)) ?_;try first|rw[Heap.set_set]|rw[Heap.set_under (by assumption)]
    refine .ng ?_;refine AWP.frz (t:=5) rfl (hb5) ?_;refine .sr ?_;refine .p rfl (pure_fieldI Tryz.underlying42 rfl Tryz.sizeOf24 (tm rfl)) ?_;refine .p rfl (pure_load1 Tryz.isAgg24 (tm rfl)) ?_;refine .p rfl (pure_lenL Tryz.underlying24 (tm rfl)) ?_;refine .p rfl (pure_move ev_int) ?_;refine .ng ?_;refine .block ?_;refine AWP.loopW (gcell_J step mu I fn cap l tl i l[i] s1) (l[i].cells.length) ⟨0,s1,Nat.zero_le _,rfl,rfl,hI,by omega,rfl⟩ (sub_c rfl (sub_c rfl (sub_c rfl (sub_c rfl (sub_c rfl (sub_c rfl (sub_c rfl (sub_c rfl sub_n)))))))) (Heap.le.refl _) ?_;rintro _ _ H ⟨j,s2,hj,hs2,rfl,hI,hm2,hk2⟩;refine .sr ?_;refine .p rfl (pure_lss (tm rfl) (tm rfl)) ?_;refine .ng ?_;refine .seq ?_;refine AWP.cond (tm rfl) (λhc18=>?_) (λhc18=>?_)
    · try simp only[decide_eq_true_eq]at hc18
      have hjl:j<l[i].cells.length:=by omega
      rw[cellsF_drop hjl]at hs2;have hmn:=hmu s2 l[i].cells[j];refine .skip ?_;refine Next.go ?_;refine .seq ?_;refine .block ?_;refine .sr ?_;refine .p rfl (pure_indexL Tryz.underlying24 Tryz.sizeOf27 (tm rfl) (tm rfl) (by omega) (by omega)) ?_;refine .p rfl (pure_loadN Tryz.isAgg27 Tryz.sizeOf27 (tm rfl) (Nat.le_of_ble_eq_true rfl)) ?_;refine .s rfl (step_al zr27) ?_;rintro _ _ ⟨b7,hb7,rfl,hH⟩;obtain rfl:=hH.symm;refine .e0 (step_store Tryz.sizeOf27 (tm rfl) (tm rfl) rfl rfl (.inr ⟨_,rfl⟩) (Heap.objs_set_same _ _ _) (Nat.le_of_ble_eq_true rfl)) ?_;try first|rw[Heap.set_set]|rw[Heap.set_under (by assumption)]
      refine .ng ?_;refine AWP.frz (t:=7) rfl (hb7) ?_;refine .region ?_;refine .p rfl (pure_fieldI Tryz.underlying125 rfl Tryz.sizeOf123 (tm rfl)) ?_;refine .p rfl (pure_load1 Tryz.isAgg123 (tm rfl)) ?_;refine .p rfl (pure_loadN Tryz.isAgg27 Tryz.sizeOf27 (tm rfl) (Nat.le_of_ble_eq_true rfl)) ?_;refine .p rfl (pure_fieldI Tryz.underlying42 rfl Tryz.sizeOf4 (tm rfl)) ?_;refine .p rfl (pure_load1 Tryz.isAgg4 (tm rfl)) ?_;refine .s rfl (step_call hent (tm rfl) (evs2 rfl rfl) (hf _ _ _ _ (hal.bits _ (List.getElem_mem (by omega))) (by omega) hI)) ?_;rintro _ H hI;refine .nil ?_;refine Block.go ?_;refine Next.go ?_;refine .region ?_;refine .p rfl (pure_add (tm rfl) ev_int (by omega)) ?_;refine .mv rfl rfl ?_;refine .ng ?_;refine Round.mk (J:=gcell_J step mu I fn cap l tl i l[i] s1) ⟨j+1,_,by omega,hs2,rfl,hI,by omega,rfl⟩ (sub_c rfl (sub_c rfl (sub_c rfl (sub_c rfl (sub_c rfl (sub_c rfl (sub_c rfl (sub_c rfl sub_n)))))))) (Heap.le.refl _) (by omega)
    try simp only[decide_eq_false_iff_not,Int.not_lt]at hc18
    rw[List.drop_eq_nil_of_le (show l[i].cells.length≤j by omega)]at hs2;refine .exit ?_;refine Next.ex ?_;refine Next.ex ?_;refine Block.hit ?_;refine Block.go ?_;refine Next.go ?_;refine .region ?_;refine .p rfl (pure_add (tm rfl) ev_int (by omega)) ?_;refine .mv rfl rfl ?_;refine .ng ?_;refine Round.mk (J:=gover_J step mu I fn cap l tl s) ⟨i+1,s2,by omega,by rw[show s2=_ from hs2];exact hs,rfl,hI,by omega,rfl⟩ (sub_c rfl (sub_c rfl (sub_c rfl (sub_c rfl sub_n)))) (Heap.le.refl _) (by omega)
  try simp only[decide_eq_false_iff_not,Int.not_lt]at hc11
  refine .exit ?_;refine Next.ex ?_;refine Next.ex ?_;refine Block.hit ?_;refine Ret.go' .nil _ (Heap.le.refl _) ?_;rw[List.drop_eq_nil_of_le (by omega)]at hs;rw[←hs];exact⟨hI,by show mu s1≤_;omega⟩
end
end Go.Proofs.YtojblnldfdeefaaGreatDoor
