import Derived.Test.YteedncdcbgplfaaGreatDoorZa
import Derived.Test.YteedncdcbgplfaaGreatDoorJ6
set_option maxHeartbeats 1000000
namespace Go.Proofs.YteedncdcbgplfaaGreatDoor
open Go Go.RowKit
variable {i : Nat} {l : List ItN} {o : List (List UInt8)}
section
set_option maxRecDepth 100000

theorem zr186 : ZR 186 [.slice 2 [] .full, .bool false, .int .i64 0, .str [], .str [], .str [], .str [], .str [], .str [], .str [], .bool false, .bool false, .int .i64 0, .slice 1 [] .full] := ZRi Tryz.zeroValue186
theorem pl186 : PL 186 [(0, 3), (3, 10), (13, 1)] := PLi U186

def bkY (l : List ItN) (gr : Bool) (sc : Int) (o : Loc) (b n : Nat) : List AV := [itS l .shared, .bool gr, .int .i64 sc] ++ (rL o).cells ++ [.mslice (some ⟨b, 0, none⟩) n n]
def wdR (w : List (List UInt8)) : AObj := .box 9 (w.map AV.str)
def awX (o : Loc) (l : List ItN) (i : Nat) : List (List UInt8) := ((l.take i).map fun x => (acV o x).txt) ++ List.replicate (l.length - i) []
theorem boM (o : Loc) (l : List ItN) : awX o l 0 = List.replicate l.length [] := by simp [awX]
theorem boL (o : Loc) (l : List ItN) : awX o l l.length = (l.map (acV o)).map Pc.txt := by simp [awX]
theorem ahZ (o : Loc) (l : List ItN) (h : i ≤ l.length) : (awX o l i).length = l.length := by simp [awX]; omega
theorem afY (o : Loc) (h : i < l.length) {s : List UInt8} (hp : (acV o l[i]).txt = s) : (awX o l i).set i s = awX o l (i + 1) := by
 unfold awX
 rw [show l.length - i = (l.length - (i + 1)) + 1 by omega, List.replicate_succ, ← List.take_append_getElem h, List.map_append, List.append_assoc]
 have e : ((l.take i).map fun x => (acV o x).txt).length = i := by simp; omega
 rw [List.set_append_right _ _ (by omega), e, Nat.sub_self]
 simp [hp]
theorem adZ (o : Loc) (h : i < l.length) (hp : (acV o l[i]).txt = []) : awX o l (i + 1) = awX o l i := by
 rw [← afY o h hp]
 refine List.ext_getElem (by simp) fun j h1 h2 => ?_
 rw [List.getElem_set]
 split
 ·rename_i q; subst q
  have e : (awX o l i)[i]? = some [] := by
   unfold awX; have el : ((l.take i).map fun x => (acV o x).txt).length = i := by rw [List.length_map, List.length_take]; omega
   rw [List.getElem?_append_right (by omega), el, Nat.sub_self, List.getElem?_replicate, if_pos (by omega)]
  rw [List.getElem?_eq_getElem h2] at e
  exact (Option.some.inj e).symm
 rfl
def axD (l : List ItN) (k : Int) (s : List UInt8) (i : Nat) (o : List (List UInt8)) : List (List UInt8) := o.mapIdx fun j p => if j < i ∧ aaJ l j = k then s else p
theorem biG (l : List ItN) (k : Int) (s : List UInt8) (i : Nat) (o : List Pc) : axD l k s i (o.map Pc.txt) = (apZ l k s i o).map Pc.txt := by
 unfold axD apZ; refine List.ext_getElem (by simp) fun j h1 h2 => ?_
 rw [List.getElem_mapIdx, List.getElem_map, List.getElem_map, List.getElem_mapIdx]
 split <;> rfl
theorem boN (l : List ItN) (k : Int) (s : List UInt8) (o : List (List UInt8)) : axD l k s 0 o = o := by
 unfold axD; refine List.ext_getElem (by simp) fun j h1 h2 => ?_
 rw [List.getElem_mapIdx, if_neg (by omega)]
theorem axC (l : List ItN) (k : Int) (s : List UInt8) (i : Nat) (o : List (List UInt8)) : (axD l k s i o).length = o.length := List.length_mapIdx
theorem axB {k : Int} {s : List UInt8} (h : ¬ aaJ l i = k) : axD l k s (i + 1) o = axD l k s i o := by
 unfold axD; refine List.ext_getElem (by simp) fun j h1 h2 => ?_
 rw [List.getElem_mapIdx, List.getElem_mapIdx]
 by_cases q : j = i
 ·subst q; rw [if_neg (fun z => h z.2), if_neg (by omega)]
 by_cases c : j < i ∧ aaJ l j = k
 ·rw [if_pos ⟨by omega, c.2⟩, if_pos c]
 rw [if_neg (fun z => c ⟨by omega, z.2⟩), if_neg c]
theorem axA {k : Int} {s : List UInt8} (h : aaJ l i = k) : (axD l k s i o).set i s = axD l k s (i + 1) o := by
 unfold axD; refine List.ext_getElem (by simp) fun j h1 h2 => ?_
 rw [List.getElem_set, List.getElem_mapIdx, List.getElem_mapIdx]
 by_cases q : i = j
 ·subst q; rw [if_pos rfl, if_pos ⟨by omega, h⟩]
 rw [if_neg q]
 by_cases c : j < i ∧ aaJ l j = k
 ·rw [if_pos c, if_pos ⟨by omega, c.2⟩]
 rw [if_neg c, if_neg (fun z => c ⟨by omega, z.2⟩)]
theorem beF (h : i < o.length) : (o.take (i + 1)).flatten = (o.take i).flatten ++ o.getD i [] := by
 rw [← List.take_append_getElem h, List.flatten_append, List.getD_eq_getElem?_getD, List.getElem?_eq_getElem h]; simp
theorem bmD (o : List (List UInt8)) (i : Nat) : (o.take i).flatten.length ≤ o.flatten.length := by
 have : o.flatten = (o.take i).flatten ++ (o.drop i).flatten := by rw [← List.flatten_append, List.take_append_drop]
 rw [this, List.length_append]; omega

def avZ (l : List ItN) (gr : Bool) (sc : Int) (o : Loc) (b n : Nat) (ws : List (List UInt8)) (H : Heap) : Nat → Env → Heap → Prop := fun k env H1 => ∃ i : Nat, i ≤ n ∧ env = [(0, .iptr (bkY l gr sc o b n)), (3, .str (ws.take i).flatten), (4, .int .i64 (i : Int))] ∧ H = H1 ∧ k = n - i

theorem aqR (l : List ItN) (gr : Bool) (sc : Int) (o : Loc) (b n : Nat) (ws : List (List UInt8)) (hnn : ws.length = n) (hn : n ≤ 100000) (ht : ws.flatten.length ≤ 1000000000) (H : Heap) (hb : H.objs b = some (wdR ws)) : ACall Tryz.prog 51 [.iptr (bkY l gr sc o b n)] H (fun y H' => y = .str ws.flatten ∧ H' = H) := by
 refine ACall.of_body Tryz.func51 rfl Tryz.ntmps51 Tryz.results51 rfl ?_
 iterate 17 refine AX ?_
 refine AWP.loopW (avZ l gr sc o b n ws H) (n) ⟨0, Nat.zero_le _, rfl, rfl, rfl⟩ sX (hRa _) ?_
 rintro _ _ _ ⟨i, hi, rfl, rfl, rfl⟩
 iterate 6 refine AX ?_
 refine .p rfl (zA U186 rfl Z184 (tm rfl)) ?_
 iterate 5 refine AX ?_
 refine AWP.cond (tm rfl) (fun hc11 => ?_) (fun hc11 => ?_)
 ·try simp only [decide_eq_true_eq, decide_eq_false_iff_not, Bool.not_eq_true', Bool.not_eq_false', Int.not_lt, Int.not_le, ne_eq, Decidable.not_not] at hc11
  iterate 8 refine AX ?_
  refine .p rfl (zA U186 rfl Z184 (tm rfl)) (.p rfl (zV G184 (tm rfl)) (.mv rfl rfl (.p rfl (yH U184 Z9 (tm rfl) (tm rfl) (by omega) (by omega)) (.e rfl (amY AV.str [] i G9 (tm rfl) hb (by omega) (by omega)) ?_))))
  have hnx := beF (o := ws) (i := i) (by omega)
  have hle := bmD ws (i + 1)
  rw [hnx, List.length_append] at hle
  refine .p rfl (zU (tm rfl) (tm rfl) (by exact abH (by omega))) ?_
  iterate 10 refine AX ?_
  refine Round.mk (J := avZ l gr sc o b n ws H) ⟨i + 1, by omega, rfl, rfl, rfl⟩ (zJ rfl (yD rfl (by rw [hnx]) (zJ rfl yF))) (hRa _) (by omega)
 try simp only [decide_eq_true_eq, decide_eq_false_iff_not, Bool.not_eq_true', Bool.not_eq_false', Int.not_lt, Int.not_le, ne_eq, Decidable.not_not] at hc11
 iterate 12 refine AX ?_
 refine Ret.go (.cons (.tmp _ _ rfl) .nil) _ (hRa _) ?_
 have hil : i = ws.length := by omega
 subst hil
 rw [List.take_length]
 exact ⟨rfl, rfl⟩

def atL (l : List ItN) (gr : Bool) (sc : Int) (o : Loc) (b n : Nat) (ws : List (List UInt8)) (k0 : Int) (s : List UInt8) (H : Heap) : Nat → Env → Heap → Prop := fun k env H1 => ∃ i : Nat, i ≤ l.length ∧ env = [(0, .iptr (bkY l gr sc o b n)), (1, .int .i64 k0), (2, .str s), (6, .int .i64 (i : Int))] ∧ H1 = H.set b (wdR (axD l k0 s i ws)) ∧ k = l.length - i

theorem atJ (l : List ItN) (gr : Bool) (sc : Int) (o : Loc) (b n : Nat) (ws : List (List UInt8)) (hn : ws.length = l.length) (hnl : n = l.length) (hl : l.length ≤ 100000) (k0 : Int) (s : List UInt8) (H : Heap) (hb : H.objs b = some (wdR ws)) : ACall Tryz.prog 45 [.iptr (bkY l gr sc o b n), .int .i64 k0, .str s] H (fun _ H' => H' = H.set b (wdR (axD l k0 s l.length ws))) := by
 refine ACall.of_body Tryz.func45 rfl Tryz.ntmps45 Tryz.results45 rfl ?_
 iterate 6 refine AX ?_
 refine AWP.loopW (atL l gr sc o b n ws k0 s H) (l.length) ⟨0, Nat.zero_le _, rfl, by rw [boN]; exact (Heap.set_self hb).symm, rfl⟩ sX (hRa _) ?_
 rintro _ _ _ ⟨i, hi, rfl, rfl, rfl⟩
 iterate 6 refine AX ?_
 refine .p rfl (zA U186 rfl Z184 (tm rfl)) ?_
 iterate 5 refine AX ?_
 refine AWP.cond (tm rfl) (fun hc13 => ?_) (fun hc13 => ?_)
 ·try simp only [decide_eq_true_eq, decide_eq_false_iff_not, Bool.not_eq_true', Bool.not_eq_false', Int.not_lt, Int.not_le, ne_eq, Decidable.not_not] at hc13
  iterate 8 refine AX ?_
  refine .p rfl (zA U186 rfl Z48 (tm rfl)) (.p rfl (zA U48 rfl Z46 (tm rfl)) ?_)
  iterate 3 refine AX ?_
  refine .p rfl (zA U78 rfl Z3 (tm rfl)) ?_
  iterate 5 refine AX ?_
  refine AWP.cond (tm rfl) (fun hc26 => ?_) (fun hc26 => ?_)
  ·try simp only [decide_eq_true_eq, decide_eq_false_iff_not, Bool.not_eq_true', Bool.not_eq_false', Int.not_lt, Int.not_le, ne_eq, Decidable.not_not] at hc26
   iterate 3 refine AX ?_
   refine .p rfl (zA U186 rfl Z184 (tm rfl)) (.p rfl (zV G184 (tm rfl)) (.mv rfl rfl (.mv rfl rfl (.p rfl (yH U184 Z9 (tm rfl) (tm rfl) (by omega) (by omega)) (.e0 (yP AV.str s i Z9 (tm rfl) (tm rfl) rfl rfl (oS _ _ _) (by omega) (by rw [axC]; omega)) ?_)))))
   rw [sS]
   iterate 9 refine AX ?_
   refine Round.mk (J := atL l gr sc o b n ws k0 s H) ⟨i + 1, by omega, rfl, by first | exact congrArg (fun z => H.set b (wdR z)) (axA ((qB (by omega)).trans hc26)) | (rw [axB (i := i) (fun q => hc26 ((qB (i := i) (by omega)).symm.trans q))]), rfl⟩ sX (hRa _) (by omega)
  try simp only [decide_eq_true_eq, decide_eq_false_iff_not, Bool.not_eq_true', Bool.not_eq_false', Int.not_lt, Int.not_le, ne_eq, Decidable.not_not] at hc26
  iterate 9 refine AX ?_
  refine Round.mk (J := atL l gr sc o b n ws k0 s H) ⟨i + 1, by omega, rfl, by first | exact congrArg (fun z => H.set b (wdR z)) (axA ((qB (by omega)).trans hc26)) | (rw [axB (i := i) (fun q => hc26 ((qB (i := i) (by omega)).symm.trans q))]), rfl⟩ sX (hRa _) (by omega)
 try simp only [decide_eq_true_eq, decide_eq_false_iff_not, Bool.not_eq_true', Bool.not_eq_false', Int.not_lt, Int.not_le, ne_eq, Decidable.not_not] at hc13
 iterate 4 refine AX ?_
 refine Ret.go' .nil _ (hRa _) ?_
 have hil : i = l.length := by omega
 subst hil
 rfl

def akU (l : List ItN) (gr : Bool) (sc : Int) (o : Loc) (b : Nat) (H : Heap) : Nat → Env → Heap → Prop := fun k env H1 => ∃ i : Nat, i ≤ l.length ∧ env = [(2, .iptr [itS l .shared, .bool gr, .int .i64 sc]), (3, .iptr (rL o).cells), (5, .iptr (bkY l gr sc o b l.length)), (6, .int .i64 (i : Int))] ∧ H1 = H.set b (wdR (awX o l i)) ∧ k = l.length - i

theorem ayA (l : List ItN) (gr : Bool) (sc : Int) (o : Loc) (hl : l.length ≤ 100000) (H : Heap) : ACall Tryz.prog 43 [.agg [itS l .shared, .bool gr, .int .i64 sc], rL o] H (fun y H' => ∃ b, y = .iptr (bkY l gr sc o b l.length) ∧ H.objs b = none ∧ H' = H.set b (wdR ((l.map (acV o)).map Pc.txt))) := by
 refine ACall.of_body Tryz.func43 rfl Tryz.ntmps43 Tryz.results43 rfl ?_
 iterate 2 refine AX ?_
 refine .e rfl (qA (tm rfl) (.inr ⟨_, rfl⟩)) (.e rfl (qA (tm rfl) (.inr ⟨_, rfl⟩)) (.p rfl (zC alW) ?_))
 iterate 3 refine AX ?_
 refine AWP.draw [(0, true), (1, true), (2, true), (3, true), (4, true), (5, false), (6, true), (7, true), (8, true)] rfl (by decide +kernel) ?_
 iterate 2 refine AX ?_
 refine .p rfl rfl (zA U48 rfl Z46 (tm rfl)) ?_
 iterate 2 refine AX ?_
 refine .s rfl rfl (akH (m := l.length) U184 Tryz.typeInfo9 Z9 Tryz.zeroValue9 (tm rfl) (tm rfl) (by decide) (by omega)) ?_
 rintro _ _ ⟨b, rfl, hb, hH⟩
 obtain rfl := hH.symm
 refine .p rfl rfl (qN zr186 pl186 (.cons (tm rfl) (.inr ⟨_, rfl⟩) (.cons (tm rfl) (.inr ⟨_, rfl⟩) (.cons (tm rfl) (.inl rfl) .nil))) rfl) ?_
 refine APlan.f rfl rfl (fun _ => qA (tm rfl) (.inr ⟨_, rfl⟩)) ?_
 iterate 10 refine AX ?_
 refine AWP.loopW (akU l gr sc o b H) (l.length) ⟨0, Nat.zero_le _, rfl, by rw [boM]; unfold wdR; rw [List.map_replicate], rfl⟩ sX (hRa _) ?_
 rintro _ _ _ ⟨i, hi, rfl, rfl, rfl⟩
 iterate 4 refine AX ?_
 refine .p rfl (zA U48 rfl Z46 (tm rfl)) ?_
 iterate 5 refine AX ?_
 refine AWP.cond (tm rfl) (fun hc19 => ?_) (fun hc19 => ?_)
 ·try simp only [decide_eq_true_eq, decide_eq_false_iff_not, Bool.not_eq_true', Bool.not_eq_false', Int.not_lt, Int.not_le, ne_eq, Decidable.not_not] at hc19
  iterate 6 refine AX ?_
  refine .p rfl (zA U48 rfl Z46 (tm rfl)) ?_
  iterate 3 refine AX ?_
  refine .p rfl (zA U78 rfl Z3 (tm rfl)) ?_
  iterate 10 refine AX ?_
  refine AWP.cond (tm rfl) (fun hc28 => ?_) (fun hc28 => ?_)
  ·try simp only [decide_eq_true_eq, decide_eq_false_iff_not, Bool.not_eq_true', Bool.not_eq_false', Int.not_lt, Int.not_le, ne_eq, Decidable.not_not] at hc28
   refine AWP.draw [(0, true), (1, true), (2, true), (3, true), (4, true), (5, true), (6, true), (7, true), (8, true), (9, true), (10, true), (11, true), (12, false)] rfl (by decide +kernel) ?_
   iterate 2 refine AX ?_
   refine .p rfl rfl (zA U186 rfl Z184 (tm rfl)) ?_
   iterate 2 refine AX ?_
   refine .p rfl rfl (zA U48 rfl Z46 (tm rfl)) ?_
   iterate 2 refine AX ?_
   refine .p rfl rfl (aeH U46 Z78 (tm rfl) (tm rfl) (by omega) (by omega)) (.p rfl rfl (zA U78 rfl Z9 (tm rfl)) (.p rfl rfl (zV G9 (tm rfl)) (.p rfl rfl (yH U184 Z9 (tm rfl) (tm rfl) (by omega) (by omega)) (.s0 rfl (yP AV.str (l[i].text) i Z9 (tm rfl) (tm rfl) rfl rfl (oS _ _ _) (by omega) (by rw [ahZ o l hi]; omega)) ?_))))
   rintro _ _ ⟨rfl, hH⟩
   obtain rfl := hH.symm
   rw [sS]
   rw [afY o (show i < l.length by omega) (by unfold acV; rw [if_pos (by exact hc28)]; rfl)]
   iterate 10 refine AX ?_
   refine Round.mk (J := akU l gr sc o b H) ⟨i + 1, by omega, rfl, by first | rfl | (rw [adZ o (show i < l.length by omega) (by unfold acV; rw [if_neg (by exact hc28), if_neg (by exact hc42), if_neg (by exact hc52), if_neg (by exact hc62), if_neg (by exact hc72)]; rfl)]), rfl⟩ sX (hRa _) (by omega)
  try simp only [decide_eq_true_eq, decide_eq_false_iff_not, Bool.not_eq_true', Bool.not_eq_false', Int.not_lt, Int.not_le, ne_eq, Decidable.not_not] at hc28
  iterate 6 refine AX ?_
  refine AWP.cond (tm rfl) (fun hc42 => ?_) (fun hc42 => ?_)
  ·try simp only [decide_eq_true_eq, decide_eq_false_iff_not, Bool.not_eq_true', Bool.not_eq_false', Int.not_lt, Int.not_le, ne_eq, Decidable.not_not] at hc42
   refine AWP.draw [(0, true), (1, true), (2, true), (3, true), (4, true), (5, true), (6, true), (7, true), (8, false)] rfl (by decide +kernel) ?_
   iterate 2 refine AX ?_
   refine .p rfl rfl (zA U186 rfl Z184 (tm rfl)) ?_
   refine AX ?_
   refine .p rfl rfl (zD (tm rfl)) (.p rfl rfl (zA U34 rfl Z9 (tm rfl)) (.p rfl rfl (zV G9 (tm rfl)) (.p rfl rfl (yH U184 Z9 (tm rfl) (tm rfl) (by omega) (by omega)) (.s0 rfl (yP AV.str (o.cur) i Z9 (tm rfl) (tm rfl) rfl rfl (oS _ _ _) (by omega) (by rw [ahZ o l hi]; omega)) ?_))))
   rintro _ _ ⟨rfl, hH⟩
   obtain rfl := hH.symm
   rw [sS]
   rw [afY o (show i < l.length by omega) (by unfold acV; rw [if_neg (by exact hc28), if_pos (by exact hc42)]; rfl)]
   iterate 10 refine AX ?_
   refine Round.mk (J := akU l gr sc o b H) ⟨i + 1, by omega, rfl, by first | rfl | (rw [adZ o (show i < l.length by omega) (by unfold acV; rw [if_neg (by exact hc28), if_neg (by exact hc42), if_neg (by exact hc52), if_neg (by exact hc62), if_neg (by exact hc72)]; rfl)]), rfl⟩ sX (hRa _) (by omega)
  try simp only [decide_eq_true_eq, decide_eq_false_iff_not, Bool.not_eq_true', Bool.not_eq_false', Int.not_lt, Int.not_le, ne_eq, Decidable.not_not] at hc42
  iterate 6 refine AX ?_
  refine AWP.cond (tm rfl) (fun hc52 => ?_) (fun hc52 => ?_)
  ·try simp only [decide_eq_true_eq, decide_eq_false_iff_not, Bool.not_eq_true', Bool.not_eq_false', Int.not_lt, Int.not_le, ne_eq, Decidable.not_not] at hc52
   refine AWP.draw [(0, true), (1, true), (2, true), (3, true), (4, true), (5, true), (6, true), (7, true), (8, false)] rfl (by decide +kernel) ?_
   iterate 2 refine AX ?_
   refine .p rfl rfl (zA U186 rfl Z184 (tm rfl)) ?_
   refine AX ?_
   refine .p rfl rfl (zD (tm rfl)) (.p rfl rfl (zA U34 rfl Z9 (tm rfl)) (.p rfl rfl (zV G9 (tm rfl)) (.p rfl rfl (yH U184 Z9 (tm rfl) (tm rfl) (by omega) (by omega)) (.s0 rfl (yP AV.str (o.pct) i Z9 (tm rfl) (tm rfl) rfl rfl (oS _ _ _) (by omega) (by rw [ahZ o l hi]; omega)) ?_))))
   rintro _ _ ⟨rfl, hH⟩
   obtain rfl := hH.symm
   rw [sS]
   rw [afY o (show i < l.length by omega) (by unfold acV; rw [if_neg (by exact hc28), if_neg (by exact hc42), if_pos (by exact hc52)]; rfl)]
   iterate 10 refine AX ?_
   refine Round.mk (J := akU l gr sc o b H) ⟨i + 1, by omega, rfl, by first | rfl | (rw [adZ o (show i < l.length by omega) (by unfold acV; rw [if_neg (by exact hc28), if_neg (by exact hc42), if_neg (by exact hc52), if_neg (by exact hc62), if_neg (by exact hc72)]; rfl)]), rfl⟩ sX (hRa _) (by omega)
  try simp only [decide_eq_true_eq, decide_eq_false_iff_not, Bool.not_eq_true', Bool.not_eq_false', Int.not_lt, Int.not_le, ne_eq, Decidable.not_not] at hc52
  iterate 6 refine AX ?_
  refine AWP.cond (tm rfl) (fun hc62 => ?_) (fun hc62 => ?_)
  ·try simp only [decide_eq_true_eq, decide_eq_false_iff_not, Bool.not_eq_true', Bool.not_eq_false', Int.not_lt, Int.not_le, ne_eq, Decidable.not_not] at hc62
   refine AWP.draw [(0, true), (1, true), (2, true), (3, true), (4, true), (5, true), (6, true), (7, true), (8, false)] rfl (by decide +kernel) ?_
   iterate 2 refine AX ?_
   refine .p rfl rfl (zA U186 rfl Z184 (tm rfl)) ?_
   refine AX ?_
   refine .p rfl rfl (zD (tm rfl)) (.p rfl rfl (zA U34 rfl Z9 (tm rfl)) (.p rfl rfl (zV G9 (tm rfl)) (.p rfl rfl (yH U184 Z9 (tm rfl) (tm rfl) (by omega) (by omega)) (.s0 rfl (yP AV.str (o.dc) i Z9 (tm rfl) (tm rfl) rfl rfl (oS _ _ _) (by omega) (by rw [ahZ o l hi]; omega)) ?_))))
   rintro _ _ ⟨rfl, hH⟩
   obtain rfl := hH.symm
   rw [sS]
   rw [afY o (show i < l.length by omega) (by unfold acV; rw [if_neg (by exact hc28), if_neg (by exact hc42), if_neg (by exact hc52), if_pos (by exact hc62)]; rfl)]
   iterate 10 refine AX ?_
   refine Round.mk (J := akU l gr sc o b H) ⟨i + 1, by omega, rfl, by first | rfl | (rw [adZ o (show i < l.length by omega) (by unfold acV; rw [if_neg (by exact hc28), if_neg (by exact hc42), if_neg (by exact hc52), if_neg (by exact hc62), if_neg (by exact hc72)]; rfl)]), rfl⟩ sX (hRa _) (by omega)
  try simp only [decide_eq_true_eq, decide_eq_false_iff_not, Bool.not_eq_true', Bool.not_eq_false', Int.not_lt, Int.not_le, ne_eq, Decidable.not_not] at hc62
  iterate 6 refine AX ?_
  refine AWP.cond (tm rfl) (fun hc72 => ?_) (fun hc72 => ?_)
  ·try simp only [decide_eq_true_eq, decide_eq_false_iff_not, Bool.not_eq_true', Bool.not_eq_false', Int.not_lt, Int.not_le, ne_eq, Decidable.not_not] at hc72
   iterate 3 refine AX ?_
   refine .p rfl (zA U186 rfl Z184 (tm rfl)) (.p rfl (zV G184 (tm rfl)) (.mv rfl rfl (.p rfl (yH U184 Z9 (tm rfl) (tm rfl) (by omega) (by omega)) (.e0 (yP AV.str ([47]) i Z9 (tm rfl) (zM rfl) rfl rfl (oS _ _ _) (by omega) (by rw [ahZ o l hi]; omega)) ?_))))
   rw [sS]
   rw [afY o (show i < l.length by omega) (by unfold acV; rw [if_neg (by exact hc28), if_neg (by exact hc42), if_neg (by exact hc52), if_neg (by exact hc62), if_pos (by exact hc72)]; rfl)]
   iterate 10 refine AX ?_
   refine Round.mk (J := akU l gr sc o b H) ⟨i + 1, by omega, rfl, by first | rfl | (rw [adZ o (show i < l.length by omega) (by unfold acV; rw [if_neg (by exact hc28), if_neg (by exact hc42), if_neg (by exact hc52), if_neg (by exact hc62), if_neg (by exact hc72)]; rfl)]), rfl⟩ sX (hRa _) (by omega)
  try simp only [decide_eq_true_eq, decide_eq_false_iff_not, Bool.not_eq_true', Bool.not_eq_false', Int.not_lt, Int.not_le, ne_eq, Decidable.not_not] at hc72
  iterate 10 refine AX ?_
  refine Round.mk (J := akU l gr sc o b H) ⟨i + 1, by omega, rfl, by first | rfl | (rw [adZ o (show i < l.length by omega) (by unfold acV; rw [if_neg (by exact hc28), if_neg (by exact hc42), if_neg (by exact hc52), if_neg (by exact hc62), if_neg (by exact hc72)]; rfl)]), rfl⟩ sX (hRa _) (by omega)
 try simp only [decide_eq_true_eq, decide_eq_false_iff_not, Bool.not_eq_true', Bool.not_eq_false', Int.not_lt, Int.not_le, ne_eq, Decidable.not_not] at hc19
 iterate 12 refine AX ?_
 refine Ret.go (.cons (.tmp _ _ rfl) .nil) _ (hRa _) ?_
 have hil : i = l.length := by omega
 subst hil
 exact ⟨b, rfl, hb, by rw [boL]⟩

theorem axP (o : Loc) (s : SecN) (x : List UInt8) : (axD s.items 8 x s.items.length ((s.items.map (acV o)).map Pc.txt)).flatten = bbI o s x := by
 rw [biG]; rfl
theorem bfX (o : Loc) {p : List SecN} (x : List UInt8) (h : qL p = true) (k : Int) (hk : zX (afK p) = k) : agA o p x = if p.length = 4 ∨ (p.length = 1 ∧ k = 6) then (bbI o (afK p) x, 0) else (x, 0) := by
 have hl := adR h
 unfold agA
 rw [if_neg (by rw [h]; simp), hk]
 by_cases q : p.length < 4 ∧ (1 < p.length ∨ k ≠ 6)
 ·rw [if_pos q, if_neg (by omega)]
 rw [if_neg q, if_pos (by omega)]

theorem aqS (p : List SecN) (tp : Tail) (hs : ∀ s, s ∈ p → s.items.length ≤ 1000) (x : List UInt8) (hx : x.length ≤ 1000) (o : Loc) (ho : o.ok) (H : Heap) : ACall Tryz.prog 15 [aeK p tp, .str x, rL o] H (fun y H' => y = .tuple [.str (agA o p x).1, .int .i64 (agA o p x).2] ∧ H' = H) := by
 refine ACall.of_body Tryz.func15 rfl Tryz.ntmps15 Tryz.results15 rfl ?_
 iterate 10 refine AX ?_
 refine .cl rfl Tryz.call18 (evs1 rfl) (aeD _ _ hs _) ?_
 iterate 10 refine AX ?_
 refine AWP.cx rfl (fun hc13 => ?_) (fun hc13 => ?_)
 ·iterate 9 refine AX ?_
  refine ⟨?_, rfl⟩
  unfold agA
  rw [if_pos hc13]; rfl
 have hr : qL p = true := by simpa using hc13
 obtain ⟨hp1, hp4⟩ := adR hr
 obtain ⟨hl1, hl2, hl3⟩ := ahD hr (awO (by omega))
 have hla : p[(((p.length : Nat) : Int) - 1).toNat]'(by omega) = afK p := by
  unfold afK; rw [adQ (show p.length - 1 < p.length by omega)]; congr 1; omega
 have hl0 : p.length = 1 → p[(Int.toNat 0)]'(by omega) = afK p := fun q => by
  unfold afK; rw [adQ (show p.length - 1 < p.length by omega)]; congr 1; omega
 have hle := fun h1 h2 => avQ ho (s := afK p) (x := x) h1 h2 hx
 have hfl := axP o (afK p) x
 have hte := fun k hk => bfX o x hr k hk
 generalize afK p = z at *
 obtain ⟨l, gr, sc⟩ := z
 have hle := hle hl1 hl2
 rw [← hfl] at hle
 have hl1 : l.length ≤ 100 := hl1
 generalize hkk : zX (SecN.mk l gr sc) = kk at *
 have hte := hte _ rfl
 have hsh : ∀ (q : p.length = 1) (H : Heap), ACall Tryz.prog 16 [AV.agg (List.take 3 (SecN.av (p[(Int.toNat 0)]'(by omega))).cells)] H (fun y H' => y = .int .i64 kk ∧ H' = H) := fun q H => by
  rw [hl0 q, ← hkk]; exact afG l gr sc _ (by omega) H
 have hbg : ∀ H : Heap, ACall Tryz.prog 43 [AV.agg (List.take 3 (SecN.av (p[(((p.length : Nat) : Int) - 1).toNat]'(by omega))).cells), rL o] H (fun y H' => ∃ b, y = .iptr (bkY l gr sc o b l.length) ∧ H.objs b = none ∧ H' = H.set b (wdR ((l.map (acV o)).map Pc.txt))) := fun H => by
  rw [hla]; exact ayA l gr sc o (by omega) H
 iterate 3 refine AX ?_
 refine AWP.seqTo 28 (.bool (decide (p.length = 4 ∨ (p.length = 1 ∧ kk = 6)))) [0, 1, 5, 6, 7] ?_ ?_
 ·-- region 4
  iterate 5 refine AX ?_
  refine zB (t := 17) rfl (fun hg17 => ?_) (fun hg17 => ?_)
  ·have hh17 := hg17; try simp only [decide_eq_true_eq, decide_eq_false_iff_not, Bool.not_eq_true', Bool.not_eq_false', Int.not_lt, Int.not_le, ne_eq, Decidable.not_not] at hh17
   iterate 12 refine AX ?_
   exact ⟨rfl, zP rfl (by (refine Eq.symm ?_; first | ((with_reducible refine decide_eq_decide.2 ?_); (first | omega | simp [*])) | ((with_reducible refine decide_eq_true ?_); (first | omega | simp [*])) | ((with_reducible refine decide_eq_false ?_); (first | omega | simp [*])))) sX, rfl⟩
  have hh17 := hg17; try simp only [decide_eq_true_eq, decide_eq_false_iff_not, Bool.not_eq_true', Bool.not_eq_false', Int.not_lt, Int.not_le, ne_eq, Decidable.not_not] at hh17
  iterate 4 refine AX ?_
  refine zB (t := 21) rfl (fun hg21 => ?_) (fun hg21 => ?_)
  ·have hh21 := hg21; try simp only [decide_eq_true_eq, decide_eq_false_iff_not, Bool.not_eq_true', Bool.not_eq_false', Int.not_lt, Int.not_le, ne_eq, Decidable.not_not] at hh21
   iterate 3 refine AX ?_
   refine .gs rfl rfl rfl (by assumption) (zE Tryz.call16 (evs1 rfl) (hsh (by omega) _)) ?_
   rintro _ _ ⟨rfl, hH⟩
   obtain rfl := hH.symm
   iterate 4 refine AX ?_
   exact ⟨rfl, zP rfl (by (refine Eq.symm ?_; first | ((with_reducible refine decide_eq_decide.2 ?_); (first | omega | simp [*])) | ((with_reducible refine decide_eq_true ?_); (first | omega | simp [*])) | ((with_reducible refine decide_eq_false ?_); (first | omega | simp [*])))) sX, rfl⟩
  have hh21 := hg21; try simp only [decide_eq_true_eq, decide_eq_false_iff_not, Bool.not_eq_true', Bool.not_eq_false', Int.not_lt, Int.not_le, ne_eq, Decidable.not_not] at hh21
  iterate 8 refine AX ?_
  exact ⟨rfl, zP rfl (by (refine Eq.symm ?_; first | ((with_reducible refine decide_eq_decide.2 ?_); (first | omega | simp [*])) | ((with_reducible refine decide_eq_true ?_); (first | omega | simp [*])) | ((with_reducible refine decide_eq_false ?_); (first | omega | simp [*])))) sX, rfl⟩
 refine AWP.sub [(28, _), (0, _), (1, _), (5, _), (6, _), (7, _)] sX ?_
 refine AWP.cx rfl (fun hc28 => ?_) (fun hc28 => ?_)
 ·refine AX ?_
  refine AWP.draw [(0, true), (1, true), (2, true), (3, true), (4, true), (5, true), (6, true), (7, false), (8, true)] rfl (by decide +kernel) ?_
  iterate 7 refine AX ?_
  refine .s rfl rfl (zE Tryz.call43 (evs2 rfl rfl) (hbg _)) ?_
  rintro _ _ ⟨b, rfl, hb, rfl⟩
  iterate 7 refine AX ?_
  refine .s rfl (zE Tryz.call45 (.cons (tm rfl) (.cons zG (evs1 rfl))) (atJ l gr sc o b l.length ((l.map (acV o)).map Pc.txt) (by simp) rfl (by omega) 8 x _ (oS _ _ _))) ?_
  rintro _ _ rfl
  rw [sS]
  iterate 5 refine AX ?_
  refine .cl rfl Tryz.call51 (evs1 rfl) (aqR l gr sc o b l.length _ (by rw [axC]; simp) (by omega) hle _ (oS _ _ _)) ?_
  iterate 6 refine AX ?_
  refine Ret.go (.cons (.tmp _ _ rfl) (.cons (.tmp _ _ rfl) .nil)) H (Heap.le_set hb _) ?_
  refine ⟨?_, rfl⟩
  rw [hte, if_pos hc28, ← hfl]; rfl
 iterate 11 refine AX ?_
 refine ⟨?_, rfl⟩
 rw [hte, if_neg hc28]; rfl

end
section
open Go Go.RowKit
set_option maxRecDepth 100000

def bfP (i : Nat) : AV := .int .i64 (i : Int)
def acI (a : List Nat) (tl : Tail) : AV := .slice 1 (a.map bfP) tl
theorem atM (a : List Nat) : ∀ x, x ∈ a.map bfP → x.row 1 := fun x hx => by
 obtain ⟨i, _, rfl⟩ := List.mem_map.1 hx; exact ⟨rfl, rfl⟩

theorem ayS (x : ItN) (ks : List Int) (tl : Tail) (hl : ks.length ≤ 1000) (H : Heap) : ACall Tryz.prog 173 [x.av, .iptr [.slice 1 (ks.map (.int .i64)) tl]] H (fun y H' => y = .bool (decide (x.kind ∈ ks)) ∧ H' = H) := by
 refine ACall.of_body Tryz.func173 rfl Tryz.ntmps173 Tryz.results173 rfl ?_
 iterate 9 refine AX ?_
 refine .p rfl (zA U57 rfl Z3 (tm rfl)) ?_
 refine AX ?_
 refine .cl rfl Tryz.call174 (evs2 rfl rfl) (anC _ _ _ (by assumption) _) ?_
 iterate 5 refine AX ?_
 exact ⟨rfl, rfl⟩

theorem adD (l : List ItN) (gr : Bool) (sc : Int) (o : Loc) (b n : Nat) (hl : l.length ≤ 100000) (ks : List Int) (tk : Tail) (hk : ks.length ≤ 1000) (H : Heap) : ACall Tryz.prog 94 [.iptr (shC l gr sc o b n), .slice 1 (ks.map (.int .i64)) tk] H (fun y H' => y = .int .i64 (zW l ks : Int) ∧ H' = H) := by
 have hcl : zW l ks ≤ l.length := List.findIdx_le_length
 refine ACall.of_body Tryz.func94 rfl Tryz.ntmps94 Tryz.results94 rfl ?_
 iterate 10 refine AX ?_
 refine .p rfl (zA U89 rfl Z52 (tm rfl)) (.p rfl (zA U52 rfl Z50 (tm rfl)) ?_)
 iterate 2 refine AX ?_
 refine .cl rfl Tryz.call172 (evs2 rfl rfl) (anV l .shared hl _ _ (fun x => decide (x.kind ∈ ks)) _ Tryz.call173 (fun x => ayS x ks tk hk _)) ?_
 rw [show l.findIdx (fun x => decide (x.kind ∈ ks)) = zW l ks from rfl]
 generalize hq : (if zW l ks = l.length then (-1 : Int) else ((zW l ks : Nat) : Int)) = q
 have hq1 : (q < 0 → zW l ks = l.length) ∧ (¬ q < 0 → q = (zW l ks : Nat)) := by rw [← hq]; split <;> omega
 iterate 10 refine AX ?_
 refine AWP.cx rfl (fun hc14 => ?_) (fun hc14 => ?_)
 ·iterate 4 refine AX ?_
  refine .p rfl (zA U89 rfl Z52 (tm rfl)) (.p rfl (zA U52 rfl Z50 (tm rfl)) ?_)
  iterate 8 refine AX ?_
  rw [hq1.1 hc14]
  exact ⟨rfl, rfl⟩
 iterate 10 refine AX ?_
 rw [← hq1.2 (by omega)]
 exact ⟨rfl, rfl⟩

def atU (l : List ItN) (gr : Bool) (sc : Int) (o : Loc) (b n : Nat) (a e : Nat) (H : Heap) : Nat → Env → Heap → Prop := fun k env H1 => ∃ (i t : Nat), a ≤ i ∧ i ≤ e ∧ env = [(0, .iptr (shC l gr sc o b n)), (2, .int .i64 (e : Int)), (7, acI (aeY l a i) (.own t)), (8, .int .i64 (i : Int))] ∧ H.le H1 ∧ H1.toks t = true ∧ H.toks t = false ∧ k = e - i

theorem abM (l : List ItN) (gr : Bool) (sc : Int) (o : Loc) (b n : Nat) (hl : l.length ≤ 100000) (a e : Nat) (hae : a ≤ e) (hel : e ≤ l.length) (H : Heap) : ACall Tryz.prog 95 [.iptr (shC l gr sc o b n), .int .i64 (a : Int), .int .i64 (e : Int)] H (fun y H' => y = acI (aeY l a e) .shared ∧ H' = H) := by
 have hle0 := hRa H
 refine ACall.of_body Tryz.func95 rfl Tryz.ntmps95 Tryz.results95 rfl ?_
 iterate 18 refine AX ?_
 refine AWP.tag (t := 7) rfl (fun u7 hu7 => ?_)
 have hfu7 := Heap.fresh_of hle0 hu7
 have hleu7 := Heap.le_in hle0 u7
 refine AWP.loopW (atU l gr sc o b n a e H) (e - a) ⟨a, u7, Nat.le_refl _, hae, rfl, hleu7, Heap.toks_live_same _ _, hfu7, rfl⟩ (zJ rfl (zJ rfl (yD rfl (ahA (by rw [bjX]; rfl)) (zJ rfl yF)))) (hRa _) ?_
 rintro _ _ H1 ⟨i, t, hai, hie, rfl, hle1, hlive, hfr, rfl⟩
 iterate 8 refine AX ?_
 refine AWP.cx rfl (fun hc12 => ?_) (fun hc12 => ?_)
 ·iterate 8 refine AX ?_
  refine .p rfl (zA U89 rfl Z52 (tm rfl)) (.p rfl (zA U52 rfl Z50 (tm rfl)) ?_)
  iterate 3 refine AX ?_
  refine .p rfl (zA U57 rfl Z3 (tm rfl)) ?_
  iterate 4 refine AX ?_
  refine AWP.cx rfl (fun hc24 => ?_) (fun hc24 => ?_)
  ·iterate 3 refine AX ?_
   refine .e rfl (yU U30 Z3 V3 rfl (tm rfl) (.inl rfl) ⟨rfl, rfl⟩) ?_
   refine .s rfl (acO U30 U30 Z3 Tryz.typeInfo3 V3 rfl (by decide) (tm rfl) (tm rfl) (by exact .own _ hlive) (by show (_ + _) * 8 ≤ _; simp only [List.length_map, List.length_cons, List.length_nil]; have := acC l a i; omega) (by repeat' (first | exact qY _ | exact ahC | exact aoP ⟨rfl, rfl⟩ ahC | exact afR (qY _) | exact afQ (qY _) | refine aiJ ?_ ?_ | exact atM _)) (by repeat' (first | exact qY _ | exact ahC | exact aoP ⟨rfl, rfl⟩ ahC | exact afR (qY _) | exact afQ (qY _) | refine aiJ ?_ ?_))) ?_
   rintro _ _ ⟨t28, ht28, rfl, hH⟩
   obtain rfl := hH.symm
   have hf28 := Heap.fresh_of hle1 ht28
   have hle28 := Heap.le_in (Heap.le_out (t := t) hle1 (by assumption)) t28
   iterate 10 refine AX ?_
   refine Round.mk (J := atU l gr sc o b n a e H) ⟨i + 1, t28, by omega, by omega, rfl, hle28, Heap.toks_live_same _ _, hf28, rfl⟩ (zJ rfl (zJ rfl (yD rfl (ahA (by rw [awW l hai, if_pos ((qB (i := i) (by omega)).trans hc24), List.map_append]; rfl)) (zJ rfl yF)))) (hRa _) (by omega)
  iterate 9 refine AX ?_
  refine Round.mk (J := atU l gr sc o b n a e H) ⟨i + 1, t, by omega, by omega, rfl, hle1, hlive, hfr, rfl⟩ (zJ rfl (zJ rfl (yD rfl (ahA (by rw [awW l hai, if_neg (fun q => hc24 ((qB (i := i) (by omega)).symm.trans q)), List.append_nil])) (zJ rfl yF)))) (hRa _) (by omega)
 iterate 6 refine AX ?_
 have hie : i = e := by omega
 subst hie
 refine AWP.weakv (acI (aeY l a i) .shared) (t := 7) rfl (.slice _ _ _) ?_
 iterate 6 refine AX ?_
 refine Ret.go (.cons (.tmp _ _ rfl) .nil) _ (hle1) ?_
 exact ⟨rfl, rfl⟩

end
end Go.Proofs.YteedncdcbgplfaaGreatDoor
