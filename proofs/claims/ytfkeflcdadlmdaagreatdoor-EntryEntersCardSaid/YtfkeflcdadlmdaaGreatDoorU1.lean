import Derived.Test.YtfkeflcdadlmdaaGreatDoorYd
import Derived.Test.YtfkeflcdadlmdaaGreatDoorT1
import Derived.Test.YtfkeflcdadlmdaaGreatDoorQ3
import Derived.Test.YtfkeflcdadlmdaaGreatDoorLgk
import Derived.Test.YtfkeflcdadlmdaaGreatDoorSsk
namespace Go.Proofs.YtfkeflcdadlmdaaGreatDoor
open Go Go.RowKit

def litV : AV → Value
 | .int k n => .int k n
 | .bool b => .bool b
 | _ => undef
set_option maxRecDepth 100000 in
theorem bbM : Tryz.zeroCells129 = ((abE fun _ => slotF).map litV).toArray := by kernel_rfl
theorem rel_lits {g : G} : ∀ {cs : List AV}, (∀ c, c ∈ cs → RelV g c (litV c)) → RelCells g cs (cs.map litV).toArray := fun {cs} h => by
 refine ⟨by simp, fun i c v hc hv => ?_⟩
 simp only [List.getElem?_toArray, List.getElem?_map, hc, Option.map_some, Option.some.injEq] at hv
 subst hv
 exact h c (List.mem_of_getElem? hc)
theorem zrR : ∀ g, RelCells g (abE fun _ => slotF) (Value.cells (Value.agg Tryz.zeroCells129)) := fun g => by
 show RelCells g _ Tryz.zeroCells129
 rw [bbM]
 refine rel_lits fun c hc => ?_
 unfold abE at hc
 obtain ⟨i, _, hc⟩ := List.mem_flatMap.1 hc
 simp only [slotF, List.mem_cons, List.not_mem_nil, or_false] at hc
 rcases hc with rfl | rfl | rfl | rfl | rfl | rfl | rfl <;> first | exact .int _ _ | exact .bool _
theorem plR (fs : Array Field) (hfs : Tryz.prog.underlying 129 = some (.struct fs)) : ∀ (i : Nat) f p, fs[i]? = some f → [(0, 5607)][i]? = some p → ∀ w, (sizeOf f.type).run Tryz.prog w = .ok p.2 w := by
 have e := (Option.some.inj (hfs.symm.trans Tryz.underlying129))
 cases e
 intro i f p hf hp w
 match i with
 | 0 => cases hf; cases hp; exact Tryz.sizeOf127 w
 | i + 1 => simp at hp
def akP : Nat → List AV := fun _ => slotF
theorem anJ : ROK akP := fun _ => .inl rfl

set_option maxRecDepth 100000 in
theorem bcT (H : Heap) : ACall Tryz.prog 26 [] H (fun y H' => ∃ b, H.objs b = none ∧ y = .ptr (some ⟨b, 0, none⟩) ∧ H' = H.set b (.box 129 (abE akP))) := by
 refine ACall.of_body Tryz.func26 rfl Tryz.ntmps26 Tryz.results26 rfl ?_
 refine AX ?_
 -- region 0
 refine AX ?_
 refine AList.p rfl (zC aiW) ?_
 refine AList.nil ?_
 iterate 2 refine AX ?_
 -- region 1
 refine AX ?_
 refine AList.p rfl (zU [(0, 5607)] Tryz.underlying129 Tryz.zeroValue129 zrR rfl (plR _ Tryz.underlying129) .nil rfl) ?_
 refine AList.s rfl (aqO (.tmp _ _ rfl) (.inr ⟨_, rfl⟩)) ?_
 rintro _ _ ⟨b2, hb2, rfl, hH⟩
 obtain rfl := hH.symm
 refine AList.p rfl (zC (.tmp _ _ rfl)) ?_
 refine AList.nil ?_
 iterate 2 refine AX ?_
 -- ret 0
 refine Ret.go (.cons (.tmp _ _ rfl) .nil) _ (Heap.le.refl _) ?_
 exact ⟨b2, hb2, rfl, rfl⟩

theorem zr68 : ∀ g, RelCells g [.str [], .str [], .str [], .str [], .str [], .str [], .str [], .bool false, .bool false, .slice 1 [] .full, .ptr none] (Value.cells (Go.Value.agg #[Go.Value.string { data := #[] }, Go.Value.string { data := #[] }, Go.Value.string { data := #[] }, Go.Value.string { data := #[] }, Go.Value.string { data := #[] }, Go.Value.string { data := #[] }, Go.Value.string { data := #[] }, Go.Value.bool false, Go.Value.bool false, Go.Value.slice none 0 0, Go.Value.pointer none])) := fun g => RelL.cells (.cons ((.str [] (Nat.zero_le _))) (.cons ((.str [] (Nat.zero_le _))) (.cons ((.str [] (Nat.zero_le _))) (.cons ((.str [] (Nat.zero_le _))) (.cons ((.str [] (Nat.zero_le _))) (.cons ((.str [] (Nat.zero_le _))) (.cons ((.str [] (Nat.zero_le _))) (.cons (.bool _) (.cons (.bool _) (.cons (.nilSlice _ _) (.cons (.ptr _) .nil)))))))))))
theorem pl68 (fs : Array Field) (hfs : Tryz.prog.underlying 68 = some (.struct fs)) : ∀ (i : Nat) f p, fs[i]? = some f → [(0, 10), (10, 1)][i]? = some p → ∀ w, (sizeOf f.type).run Tryz.prog w = .ok p.2 w := by
 have e := (Option.some.inj (hfs.symm.trans Tryz.underlying68))
 cases e
 intro i f p hf hp w
 match i with
 | 0 => cases hf; cases hp; exact Tryz.sizeOf25 w
 | 1 => cases hf; cases hp; exact Tryz.sizeOf65 w
 | i + 2 => simp at hp

def erA (l : Loc) (b : Nat) : AV := .iptr ((pL l (szA l)).cells ++ [.ptr (some ⟨b, 0, none⟩)])

set_option maxRecDepth 100000 in
theorem ajT (l : Loc) (H : Heap) : ACall Tryz.prog 10 [pL l (szA l)] H (fun y H' => ∃ b, H.objs b = none ∧ y = erA l b ∧ H' = H.set b (.box 129 (abE akP))) := by
 refine ACall.of_body Tryz.func10 rfl Tryz.ntmps10 Tryz.results10 rfl ?_
 refine AX ?_
 -- region 0
 refine AX ?_
 refine AList.s rfl (yF (.tmp _ _ rfl) (.inr ⟨_, rfl⟩)) ?_
 rintro _ _ ⟨rfl, hH⟩
 obtain rfl := hH.symm
 refine AList.p rfl (zC aiW) ?_
 refine AList.nil ?_
 iterate 2 refine AX ?_
 -- region 1
 refine AWP.draw [(0, true), (1, false), (2, true), (3, true), (4, true)] rfl (by decide +kernel) ?_
 first | (refine APlan.p rfl rfl (apI Tryz.isAgg25 Tryz.sizeOf25 (.tmp _ _ rfl) (Nat.le_of_ble_eq_true rfl)) ?_) | (refine APlan.f rfl rfl (fun _ => yJ Tryz.isAgg25 Tryz.sizeOf25 (.tmp _ _ rfl) (by first | assumption | exact (by assumption : Heap.le _ _).objs _ _ (by assumption) | exact Heap.objs_set_same _ _ _ | exact (Heap.objs_set_ne _ _ (by assumption)).trans (Heap.objs_set_same _ _ _) | exact (Heap.objs_set_ne _ _ (by assumption)).trans ((Heap.objs_set_ne _ _ (by assumption)).trans (Heap.objs_set_same _ _ _)) | exact (Heap.objs_set_ne _ _ (by assumption)).trans (by assumption)) (Nat.le_of_ble_eq_true rfl)) ?_)
 refine APlan.s rfl rfl (zH Tryz.call26 .nil (bcT _)) ?_
 rintro _ _ ⟨b, hb, rfl, rfl⟩
 refine APlan.p rfl rfl (zU [(0, 10), (10, 1)] Tryz.underlying68 Tryz.zeroValue68 (zr68) rfl (pl68 _ Tryz.underlying68) (.cons (.tmp _ _ rfl) (.inr ⟨_, rfl⟩) (.cons (.tmp _ _ rfl) (.inl rfl) .nil)) rfl) ?_
 refine APlan.f rfl rfl (fun _ => yF (.tmp _ _ rfl) (.inr ⟨_, rfl⟩)) ?_
 refine APlan.p rfl rfl (zC (.tmp _ _ rfl)) ?_
 refine APlan.nil ?_
 iterate 2 refine AX ?_
 -- ret 0
 refine Ret.go (.cons (.tmp _ _ rfl) .nil) _ (Heap.le.refl _) ?_
 exact ⟨b, hb, rfl, rfl⟩
def yA (l : Loc) (s : List UInt8) : List UInt8 × Bool :=
 if Lib.hasPrefix s [43] = true then (Lib.trimPrefix s [43], false)
 else if Lib.hasPrefix s [45] = true then (Lib.trimPrefix s [45], true)
 else if Lib.hasPrefix s l.minus = true then (Lib.trimPrefix s l.minus, true)
 else (s, false)
theorem aiG (l : Loc) (s : List UInt8) : (yA l s).1.length ≤ s.length := by
 unfold yA
 repeat' split
 all_goals first | exact acK _ _ | exact Nat.le_refl _
def aiS (l : Loc) : List (List UInt8) := [[45], l.minus]
def auX (l : Loc) (s : List UInt8) : Option Int :=
 if (yA l s).1 ≠ [] ∧ aqC (yA l s).1 = true ∧ (yA l s).1.length ≤ 9 then some (if (yA l s).2 = true then -(num (yA l s).1 : Int) else (num (yA l s).1 : Int)) else none
theorem biX {l : Loc} {s t : List UInt8} {b : Bool} (ht : yA l s = (t, b)) (h : (ajB t || decide (9 < (t.length : Int)) || decide (qE adD t.length t ≠ [])) = true) : auX l s = none := by
 unfold auX
 rw [ht, if_neg]
 rintro ⟨h1, h2, h3⟩
 have hd := acW.1 h2
 simp only [Bool.or_eq_true, decide_eq_true_eq] at h
 rcases h with (h | h) | h
 ·unfold ajB at h
  rw [ayS h1 hd (by have h4 : t.length ≤ 9 := h3; show t.length ≤ 18; omega)] at h
  cases h
 ·have h4 : t.length ≤ 9 := h3
  omega
 ·exact h ((adP _ _ (Nat.le_refl _)).2 hd)
theorem biW {l : Loc} {s t : List UInt8} {b : Bool} (ht : yA l s = (t, b)) (h : (ajB t || decide (9 < (t.length : Int)) || decide (qE adD t.length t ≠ [])) = false) : t ≠ [] ∧ Digs t ∧ t.length ≤ 9 ∧ auX l s = some (if b = true then -(num t : Int) else (num t : Int)) := by
 simp only [Bool.or_eq_false_iff, decide_eq_false_iff_not, Decidable.not_not] at h
 obtain ⟨⟨h1, h2⟩, h3⟩ := h
 have hd := (adP _ _ (Nat.le_refl _)).1 h3
 have hne : t ≠ [] := by
  rintro rfl
  unfold ajB at h1
  simp [Lib.atoiAll] at h1
 refine ⟨hne, hd, by omega, ?_⟩
 unfold auX
 rw [ht, if_pos ⟨hne, acW.2 hd, by simp only; omega⟩]
theorem num_9 {t : List UInt8} (hd : Digs t) (hl : t.length ≤ 9) : num t < 1000000000 := Nat.lt_of_lt_of_le (afN hd) (Nat.le_trans (Nat.pow_le_pow_right (by decide) hl) (by decide))

def sign_J (l : Loc) (b : Nat) (s : List UInt8) (H : Heap) : Nat → Env → Heap → Prop := fun k env H1 => ∃ i : Nat, i ≤ 2 ∧ (∀ j, j < i → Lib.hasPrefix s ((aiS l).getD j []) = false) ∧ env = [(1, .str s), (24, .slice 1 ((aiS l).map .str) .full), (25, .int .i64 2), (26, .int .i64 (i : Int))] ∧ H = H1 ∧ k = 2 - i

set_option maxRecDepth 100000 in
theorem aoW (l : Loc) (b : Nat) (s : List UInt8) (H : Heap) : ACall Tryz.prog 31 [erA l b, .str s] H (fun y H' => y = .tuple [.str (yA l s).1, .bool (yA l s).2] ∧ H' = H) := by
 refine ACall.of_body Tryz.func31 rfl Tryz.ntmps31 Tryz.results31 rfl ?_
 iterate 10 refine AX ?_
 refine .cl rfl Tryz.call29 (.cons (tm rfl) (.cons (zR rfl) .nil)) (cutPrefixA _ _ _) ?_
 iterate 12 refine AX ?_
 refine AWP.cx rfl (fun hc17 => ?_) (fun hc17 => ?_)
 ·iterate 9 refine AX ?_
  refine Ret.go (.cons (.tmp _ _ rfl) (.cons (.tmp _ _ rfl) .nil)) _ (Heap.le.refl _) ?_
  refine ⟨?_, rfl⟩
  unfold yA
  rw [if_pos hc17]; rfl
 ·iterate 7 refine AX ?_
  refine .p rfl (zA Tryz.underlying68 rfl Tryz.sizeOf25 (tm rfl)) (.p rfl (zA Tryz.underlying25 rfl Tryz.sizeOf9 (tm rfl)) ?_)
  refine AX ?_
  refine .e rfl (agI Tryz.underlying58 Tryz.sizeOf9 Tryz.zeroValue9 rfl (zR rfl) (.inl rfl) ⟨rfl, rfl⟩ (tm rfl) (.inl rfl) ⟨rfl, rfl⟩) (.p rfl (aeS Tryz.underlying58 (tm rfl)) ?_)
  iterate 4 refine AX ?_
  refine AWP.loopW (sign_J l b s H) (2) ⟨0, by omega, fun j h => absurd h (Nat.not_lt_zero _), rfl, rfl, rfl⟩ sX (Heap.le.refl _) ?_
  rintro _ _ _ ⟨i, hi, hp, rfl, rfl, rfl⟩
  iterate 6 refine AX ?_
  refine AWP.cx rfl (fun hc27 => ?_) (fun hc27 => ?_)
  ·have hi2 : i < 2 := by omega
   have hil : i < (aiS l).length := hi2
   have hgi : (aiS l)[i] = (aiS l).getD i [] := by rw [List.getD_eq_getElem?_getD, List.getElem?_eq_getElem hil]; rfl
   iterate 6 refine AX ?_
   refine .p rfl (aaN Tryz.underlying58 Tryz.sizeOf9 (tm rfl) (tm rfl) (by omega) (by omega)) ?_
   iterate 8 refine AX ?_
   refine .cl rfl Tryz.call29 (evs2 rfl rfl) (cutPrefixA _ _ _) ?_
   iterate 12 refine AX ?_
   refine AWP.cx rfl (fun hc36 => ?_) (fun hc36 => ?_)
   ·iterate 13 refine AX ?_
    refine Ret.go (.cons (.tmp _ _ rfl) (.cons (.tmp _ _ rfl) .nil)) _ (Heap.le.refl _) ?_
    refine ⟨?_, rfl⟩
    unfold yA
    rcases (by omega : i = 0 ∨ i = 1) with rfl | rfl
    ·rw [if_neg (by simp [hc17]), if_pos (show Lib.hasPrefix s [45] = true from hc36)]; rfl
    ·rw [if_neg (by simp [hc17]), if_neg (by have := hp 0 (by decide); simpa [aiS] using this), if_pos (show Lib.hasPrefix s l.minus = true from hc36)]; rfl
   ·iterate 4 refine AX ?_
    refine .p rfl (zK (tm rfl) zF (by omega)) ?_
    iterate 3 refine AX ?_
    have hpi : Lib.hasPrefix s ((aiS l).getD i []) = false := by rw [← hgi]; exact hc36
    refine Round.mk (J := sign_J l b s H) ⟨i + 1, by omega, fun j hj => by rcases Nat.lt_or_ge j i with h | h; exact hp j h; rw [show j = i by omega]; exact hpi, rfl, rfl, rfl⟩ sX (Heap.le.refl _) (by omega)
  ·iterate 13 refine AX ?_
   refine Ret.go (.cons (.tmp _ _ rfl) (.cons (.tmp _ _ rfl) .nil)) _ (Heap.le.refl _) ?_
   refine ⟨?_, rfl⟩
   unfold yA
   have h2 : i = 2 := by omega
   subst h2
   rw [if_neg (by simp [hc17]), if_neg (by have := hp 0 (by decide); simpa [aiS] using this), if_neg (by have := hp 1 (by decide); simpa [aiS] using this)]; rfl

set_option maxRecDepth 100000 in
theorem aoL (l : Loc) (b : Nat) (s : List UInt8) (hs : s.length ≤ 2000) (H : Heap) : ACall Tryz.prog 102 [erA l b, .str s] H (fun y H' => y = .tuple [.int .i64 ((auX l s).getD 0), .bool (auX l s).isSome] ∧ H' = H) := by
 have hsl := aiG l s
 obtain ⟨⟨t, m⟩, ht⟩ : ∃ q, yA l s = q := ⟨_, rfl⟩
 rw [ht] at hsl
 have hsl2 : t.length ≤ 2000 := by have : t.length ≤ s.length := hsl; omega
 refine ACall.of_body Tryz.func102 rfl Tryz.ntmps102 Tryz.results102 rfl ?_
 iterate 10 refine AX ?_
 refine .cl rfl Tryz.call31 (evs2 rfl rfl) ((by have h := aoW l b s; rw [ht] at h; exact h _)) ?_
 iterate 10 refine AX ?_
 refine .s rfl (zH Tryz.call140 (evs1 rfl) (atoiAny t (by omega) _)) ?_
 rintro _ _ ⟨⟨v, ev, rfl, hev, hv⟩, hH⟩
 obtain rfl := hH.symm
 iterate 8 refine AX ?_
 refine AWP.seqTo 31 (.bool (ajB t || decide (9 < (t.length : Int)) || decide (qE adD t.length t ≠ []))) [4, 5, 6, 7] ?_ ?_
 ·-- region 3
  iterate 2 refine AX ?_
  refine .p rfl (bcX Tryz.underlying161 (tm rfl) hev) ?_
  refine AX ?_
  refine zI (t := 22) rfl (fun hg22 => ?_) (fun hg22 => ?_)
  ·iterate 10 refine AX ?_
   exact ⟨rfl, zZ rfl (by (rw [show ajB t = _ from hg22]; rfl)) sX, rfl⟩
  ·iterate 5 refine AX ?_
   refine zI (t := 27) rfl (fun hg27 => ?_) (fun hg27 => ?_)
   ·iterate 5 refine AX ?_
    exact ⟨rfl, zZ rfl (by (rw [show ajB t = _ from hg22, show decide (9 < (t.length : Int)) = _ from hg27]; rfl)) sX, rfl⟩
   ·refine AX ?_
    refine .gs rfl rfl rfl (by assumption) (zH Tryz.call32 (.cons (tm rfl) (.cons (.func _) .nil)) (trimDigitsA t _)) ?_
    rintro _ _ ⟨rfl, hH⟩
    obtain rfl := hH.symm
    iterate 3 refine AX ?_
    exact ⟨rfl, zZ rfl (by (simp [*]; done)) sX, rfl⟩
 ·refine AWP.sub [(31, _), (4, _), (5, _), (6, _), (7, _)] sX ?_
  refine AWP.cx rfl (fun hc31 => ?_) (fun hc31 => ?_)
  ·have hex := biX ht hc31
   iterate 8 refine AX ?_
   refine Ret.go (.cons (.tmp _ _ rfl) (.cons (.tmp _ _ rfl) .nil)) _ (Heap.le.refl _) ?_
   refine ⟨?_, rfl⟩
   rw [hex]; rfl
  ·obtain ⟨hne, hdt, hl9, hex⟩ := biW ht hc31
   have hv2 : v = (num t : Int) := by
    simp only [Bool.or_eq_false_iff] at hc31
    have h1 := hv hc31.1.1
    rw [ayS hne hdt (by omega)] at h1
    injection h1 with h1; exact h1.symm
   subst hv2
   have hn9 := num_9 hdt hl9
   iterate 2 refine AX ?_
   refine AWP.seqToL [(7, .int .i64 (if m = true then -(num t : Int) else (num t : Int)))] [4, 5] ?_ ?_
   ·iterate 5 refine AX ?_
    refine AWP.cx rfl (fun hc32 => ?_) (fun hc32 => ?_)
    ·iterate 2 refine AX ?_
     refine .p rfl (aaE (tm rfl) (by omega)) ?_
     iterate 2 refine AX ?_
     exact ⟨rfl, (zW rfl (by (rw [if_pos (show m = true from hc32)]; done)) sX), rfl⟩
    ·refine AX ?_
     exact ⟨rfl, (zW rfl (by (rw [if_neg (by rw [show m = false from hc32]; decide)]; done)) sX), rfl⟩
   ·refine AWP.sub [(7, _), (4, _), (5, _)] sX ?_
    iterate 8 refine AX ?_
    refine Ret.go (.cons (.tmp _ _ rfl) (.cons (.tmp _ _ rfl) .nil)) _ (Heap.le.refl _) ?_
    refine ⟨?_, rfl⟩
    rw [hex]; rfl
def aaP (l : Loc) (i : Nat) : Nat := if i = 0 then 3 else if l.second = 2 then 2 else 3
def szI (l : Loc) : List Int := if l.second = 2 then [3, 2] else [3]
theorem bfQ (l : Loc) : (szI l).length = (if l.second = 2 then 2 else 1) ∧ ∀ (j : Nat) (h : j < (szI l).length), (szI l)[j] = if j = 0 then 3 else 2 := by
 unfold szI
 split
 ·refine ⟨rfl, fun j h => ?_⟩
  match j, h with
  | 0, _ => rfl
  | 1, _ => rfl
 ·refine ⟨rfl, fun j h => ?_⟩
  match j, h with
  | 0, _ => rfl
theorem afW (l : Loc) (i : Nat) : 2 ≤ aaP l i ∧ aaP l i ≤ 3 := by
 unfold aaP; repeat' split
 all_goals omega
theorem size_max (l : Loc) (i : Nat) : ayB 1 (if (imin (i : Int) (((szI l).length : Int) - 1)).toNat = 0 then 3 else 2) = (aaP l i : Int) := by
 rw [(bfQ l).1]
 unfold aaP
 simp only [ayB, imin]
 repeat' split
 all_goals (first | omega | (exfalso; simp_all; done) | simp_all)
def arW (l : Loc) : Nat → Nat → List UInt8 → List UInt8 → List UInt8
 | 0, _, d, s => d ++ s
 | f + 1, i, d, s => if aaP l i < d.length then arW l f (i + 1) (d.take (d.length - aaP l i)) (l.grp ++ d.drop (d.length - aaP l i) ++ s) else d ++ s
theorem auQ (l : Loc) : ∀ (f g i : Nat) (d s : List UInt8), d.length ≤ f → d.length ≤ g → arW l f i d s = arW l g i d s
 | 0, 0, _, _, _, _, _ => rfl
 | 0, g + 1, i, d, s, hf, _ => by
  unfold arW
  rw [if_neg (by omega)]
 | f + 1, 0, i, d, s, _, hg => by
  unfold arW
  rw [if_neg (by omega)]
 | f + 1, g + 1, i, d, s, hf, hg => by
  have := afW l i
  unfold arW
  split
  ·exact auQ l f g _ _ _ (by rw [List.length_take]; omega) (by rw [List.length_take]; omega)
  ·rfl
def ahH (l : Loc) (d : List UInt8) : List UInt8 := arW l d.length 0 d []
theorem biO {l : Loc} {i : Nat} {d s : List UInt8} (h : aaP l i < d.length) : arW l d.length i d s = arW l (d.take (d.length - aaP l i)).length (i + 1) (d.take (d.length - aaP l i)) (l.grp ++ d.drop (d.length - aaP l i) ++ s) := by
 have h2 := afW l i
 obtain ⟨n, hn⟩ : ∃ n, d.length = n + 1 := ⟨d.length - 1, by omega⟩
 have e : arW l d.length i d s = arW l (n + 1) i d s := by rw [hn]
 rw [e, arW, if_pos h]
 refine auQ l _ _ _ _ _ ?_ ?_ <;> simp only [List.length_take] <;> omega
theorem grpG_end {l : Loc} {i : Nat} {d s : List UInt8} (h : ¬ aaP l i < d.length) : arW l d.length i d s = d ++ s := by
 cases hd : d.length with
 | zero => rfl
 | succ n => rw [arW, if_neg h]
theorem baG (x : UInt8) : ([48, 49, 50, 51, 52, 53, 54, 55, 56, 57] : List UInt8).contains x = true ↔ isD x := by
 have key : ∀ n : Fin 256, (([48, 49, 50, 51, 52, 53, 54, 55, 56, 57] : List UInt8).contains (UInt8.ofNat n.1)) = decide (48 ≤ n.1 ∧ n.1 ≤ 57) := by decide +kernel
 have hx := key ⟨x.toNat, x.toNat_lt⟩
 rw [show UInt8.ofNat x.toNat = x by simp] at hx
 rw [hx, decide_eq_true_eq]
 rfl
theorem anQ {p : UInt8 → Bool} : ∀ {l : List UInt8}, l.dropWhile p = [] ↔ ∀ x, x ∈ l → p x = true
 | [] => by simp
 | x :: l => by
  rw [List.dropWhile_cons]
  split
  ·rename_i h
   rw [anQ]
   constructor
   ·intro q y hy
    rcases List.mem_cons.1 hy with rfl | hy
    ·exact h
    ·exact q y hy
   ·intro q y hy; exact q y (by simp [hy])
  ·rename_i h
   constructor
   ·intro q; simp at q
   ·intro q; exact absurd (q x (by simp)) h
theorem akE (s : List UInt8) : Lib.trimS s [48, 49, 50, 51, 52, 53, 54, 55, 56, 57] = [] ↔ Digs s := by
 show ((s.reverse.dropWhile (([48, 49, 50, 51, 52, 53, 54, 55, 56, 57] : List UInt8).contains ·)).reverse.dropWhile (([48, 49, 50, 51, 52, 53, 54, 55, 56, 57] : List UInt8).contains ·)) = [] ↔ _
 rw [anQ]
 constructor
 ·intro h
  have h1 : s.reverse.dropWhile (([48, 49, 50, 51, 52, 53, 54, 55, 56, 57] : List UInt8).contains ·) = [] := by
   cases hc : s.reverse.dropWhile (([48, 49, 50, 51, 52, 53, 54, 55, 56, 57] : List UInt8).contains ·) with
   | nil => rfl
   | cons x r =>
    have hx := h x (by rw [hc]; simp)
    have hn := List.head?_dropWhile_not (p := fun x => ([48, 49, 50, 51, 52, 53, 54, 55, 56, 57] : List UInt8).contains x) (l := s.reverse)
    rw [hc] at hn
    simp only [List.head?_cons] at hn
    rw [hx] at hn; cases hn
  intro x hx
  exact (baG x).1 (anQ.1 h1 x (by simpa using hx))
 ·intro h x hx
  refine (baG x).2 (h x ?_)
  have := (List.dropWhile_sublist (l := s.reverse) (([48, 49, 50, 51, 52, 53, 54, 55, 56, 57] : List UInt8).contains ·)).subset (by simpa using hx)
  simpa using this
def abX (l : Loc) (s : List UInt8) : Option (List UInt8) :=
 if Lib.replaceAll s l.grp [] = [] ∨ aqC (Lib.replaceAll s l.grp []) = false then none
 else if Lib.replaceAll s l.grp [] ≠ s ∧ ahH l (Lib.replaceAll s l.grp []) ≠ s then none
 else some (Lib.replaceAll s l.grp [])
theorem alF {s : List UInt8} : aqC s = false ↔ ¬ Digs s := by
 rw [← acW]; simp

set_option maxRecDepth 100000 in
theorem anB (l : Loc) (i : Nat) (hi : i ≤ 100000) (H : Heap) : ACall Tryz.prog 95 [pL l (szA l), .int .i64 (i : Int)] H (fun y H' => y = .int .i64 (aaP l i : Int) ∧ H' = H) := by
 have hz : szA l = .slice 1 ((szI l).map (.int .i64)) .full := rfl
 rw [hz]
 obtain ⟨hl, hg⟩ := bfQ l
 have hl2 : 1 ≤ (szI l).length ∧ (szI l).length ≤ 2 := by rw [hl]; split <;> omega
 have hm := size_max l i
 refine ACall.of_body Tryz.func95 rfl Tryz.ntmps95 Tryz.results95 rfl ?_
 iterate 2 refine AX ?_
 refine .e rfl (yF (tm rfl) (.inr ⟨_, rfl⟩)) ?_
 iterate 6 refine AX ?_
 refine .p rfl (zA Tryz.underlying25 rfl Tryz.sizeOf23 (tm rfl)) ?_
 refine AX ?_
 refine .p rfl (adX Tryz.underlying23 (tm rfl)) ?_
 iterate 3 refine AX ?_
 refine AWP.cond_false (tm rfl) (by exact decide_eq_false (by omega)) ?_
 iterate 4 refine AX ?_
 refine .p rfl (zA Tryz.underlying25 rfl Tryz.sizeOf23 (tm rfl)) ?_
 iterate 2 refine AX ?_
 refine .p rfl (zA Tryz.underlying25 rfl Tryz.sizeOf23 (tm rfl)) ?_
 refine AX ?_
 refine .p rfl (adX Tryz.underlying23 (tm rfl)) (.p rfl (zO (tm rfl) zF (by omega)) (.p rfl (aiL (tm rfl) (tm rfl)) (.p rfl (aaN Tryz.underlying23 Tryz.sizeOf3 (tm rfl) (tm rfl) (by simp only [imin]; split <;> omega) (by simp only [imin]; split <;> omega)) ?_)))
 refine AX ?_
 refine .p rfl (acC zF (tm rfl)) ?_
 iterate 4 refine AX ?_
 refine Ret.go (.cons (.tmp _ _ rfl) .nil) _ (Heap.le.refl _) ?_
 refine ⟨?_, rfl⟩
 rw [← hm, ← hg]
 rfl

def biP (l : Loc) (d0 : List UInt8) (H : Heap) : Nat → Env → Heap → Prop := fun k env H1 => ∃ (i : Nat) (d s : List UInt8), arW l d.length i d s = ahH l d0 ∧ i + d.length ≤ d0.length ∧ s.length + d.length ≤ d0.length + 10 * i ∧ env = [(1, .str d), (2, .iptr (pL l (szA l)).cells), (5, .str s), (6, .int .i64 (i : Int))] ∧ H = H1 ∧ k = d.length

set_option maxRecDepth 100000 in
theorem asK (l : Loc) (hk : l.ok) (d0 : List UInt8) (hd0 : d0.length ≤ 10000) (H : Heap) : ACall Tryz.prog 61 [pL l (szA l), .str d0] H (fun y H' => y = .str (ahH l d0) ∧ H' = H) := by
 obtain ⟨hk1, hk2, hk3, hk4, hk5⟩ := hk
 refine ACall.of_body Tryz.func61 rfl Tryz.ntmps61 Tryz.results61 rfl ?_
 iterate 2 refine AX ?_
 refine .e rfl (yF (tm rfl) (.inr ⟨_, rfl⟩)) ?_
 iterate 15 refine AX ?_
 refine AWP.loopW (biP l d0 H) (d0.length) ⟨0, d0, [], rfl, by omega, by simp, rfl, rfl, rfl⟩ sX (Heap.le.refl _) ?_
 rintro _ _ _ ⟨i, d, s, hg, hi, hl, rfl, rfl, rfl⟩
 have hz := afW l i
 iterate 7 refine AX ?_
 refine .cl rfl Tryz.call95 (evs2 rfl rfl) (anB l i (by omega) _) ?_
 iterate 3 refine AX ?_
 refine AWP.cx rfl (fun hc13 => ?_) (fun hc13 => ?_)
 ·have hgt : aaP l i < d.length := by omega
  iterate 10 refine AX ?_
  refine .cl rfl Tryz.call95 (evs2 rfl rfl) (anB l i (by omega) _) (.p rfl (zO (tm rfl) (tm rfl) (by omega)) ?_)
  iterate 4 refine AX ?_
  refine AWP.draw [(0, true), (1, true), (2, true), (3, true), (4, true), (5, true), (6, true), (7, true), (8, true)] rfl (by decide +kernel) ?_
  refine .p rfl rfl (zA Tryz.underlying25 rfl Tryz.sizeOf9 (tm rfl)) ?_
  iterate 3 refine AX ?_
  refine .p rfl rfl (yY Tryz.underlying9 (tm rfl) (tm rfl) (by omega) (by omega)) (.p rfl rfl (yE (tm rfl) (tm rfl) (by rw [zP]; simp only [List.length_drop]; omega)) ?_)
  refine AX ?_
  refine .p rfl rfl (yE (tm rfl) (tm rfl) (by rw [zP]; simp only [List.length_append, List.length_drop]; omega)) ?_
  iterate 6 refine AX ?_
  refine .p rfl (qP Tryz.underlying9 (tm rfl) (tm rfl) (by omega) (by omega)) ?_
  iterate 6 refine AX ?_
  refine .p rfl (zK (tm rfl) zF (by omega)) ?_
  iterate 3 refine AX ?_
  have hcut : ((d.length : Int) - (aaP l i : Int)).toNat = d.length - aaP l i := by omega
  have htl : (d.take (d.length - aaP l i)).length = d.length - aaP l i := by rw [List.length_take]; omega
  rw [hcut]
  refine Round.mk (J := biP l d0 H) ⟨i + 1, (d.take (d.length - aaP l i)), l.grp ++ d.drop (d.length - aaP l i) ++ s, by rw [← hg]; exact (biO hgt).symm, by omega, by simp only [List.length_append, List.length_drop]; omega, rfl, rfl, rfl⟩ (yC rfl (yC rfl (yC rfl (zW rfl (by congr 1) yX)))) (Heap.le.refl _) (by omega)
 ·have hng : ¬ aaP l i < d.length := by omega
  iterate 9 refine AX ?_
  refine .p rfl (yE (tm rfl) (tm rfl) (by rw [zP]; omega)) ?_
  iterate 4 refine AX ?_
  refine Ret.go (.cons (.tmp _ _ rfl) .nil) _ (Heap.le.refl _) ?_
  refine ⟨?_, rfl⟩
  rw [← hg, grpG_end hng]; rfl

theorem azO (s old : List UInt8) : (Lib.replaceAll s old []).length ≤ s.length := by
 have := ahE s old []
 simpa using this

set_option maxRecDepth 100000 in
theorem ayX (l : Loc) (hk : l.ok) (hg : l.grp ≠ []) (s : List UInt8) (hs : s.length ≤ 9000) (H : Heap) : ACall Tryz.prog 105 [pL l (szA l), .str s] H (fun y H' => y = .tuple [.str ((abX l s).getD []), .bool (abX l s).isSome] ∧ H' = H) := by
 have hql := azO s l.grp
 have hgp := List.length_pos_iff.2 hg
 refine ACall.of_body Tryz.func105 rfl Tryz.ntmps105 Tryz.results105 rfl ?_
 iterate 2 refine AX ?_
 refine .e rfl (yF (tm rfl) (.inr ⟨_, rfl⟩)) ?_
 iterate 7 refine AX ?_
 refine .p rfl (zA Tryz.underlying25 rfl Tryz.sizeOf9 (tm rfl)) ?_
 refine AX ?_
 refine .cl rfl Tryz.call101 (.cons (tm rfl) (.cons (tm rfl) (.cons (zR rfl) .nil))) (replaceA s l.grp [] (by omega) (by omega) (by simp) _) ?_
 iterate 4 refine AX ?_
 refine AWP.seqTo 17 (.bool (decide ((Lib.replaceAll s l.grp []) = []) || decide (Lib.trimS (Lib.replaceAll s l.grp []) [48, 49, 50, 51, 52, 53, 54, 55, 56, 57] ≠ []))) [1, 2, 4, 5, 6] ?_ ?_
 ·-- region 2
  iterate 4 refine AX ?_
  refine zI (t := 13) rfl (fun hg13 => ?_) (fun hg13 => ?_)
  ·iterate 5 refine AX ?_
   exact ⟨rfl, zZ rfl (by (simp [*]; done)) sX, rfl⟩
  ·refine AX ?_
   refine .gs rfl rfl rfl (by assumption) (zH Tryz.call142 (.cons (tm rfl) (.cons (zR rfl) .nil)) (trimSetA [48, 49, 50, 51, 52, 53, 54, 55, 56, 57] (by decide) (by decide) _ _)) ?_
   rintro _ _ ⟨rfl, hH⟩
   obtain rfl := hH.symm
   iterate 3 refine AX ?_
   exact ⟨rfl, zZ rfl (by (simp [*]; done)) sX, rfl⟩
 ·refine AWP.sub [(17, _), (1, _), (2, _), (4, _), (5, _), (6, _)] sX ?_
  refine AWP.cx rfl (fun hc17 => ?_) (fun hc17 => ?_)
  ·simp only [Bool.or_eq_true, decide_eq_true_eq] at hc17
   rw [akE] at hc17
   iterate 8 refine AX ?_
   refine Ret.go (.cons (.tmp _ _ rfl) (.cons (.tmp _ _ rfl) .nil)) _ (Heap.le.refl _) ?_
   refine ⟨?_, rfl⟩
   unfold abX
   rw [if_pos (hc17.imp id alF.2)]; rfl
  ·simp only [Bool.or_eq_false_iff, decide_eq_false_iff_not, Decidable.not_not] at hc17
   rw [akE] at hc17
   iterate 3 refine AX ?_
   refine AWP.seqTo 27 (.bool (decide ((Lib.replaceAll s l.grp []) ≠ s) && decide (ahH l (Lib.replaceAll s l.grp []) ≠ s))) [4, 5, 6] ?_ ?_
   ·-- region 4
    iterate 5 refine AX ?_
    refine zI (t := 21) rfl (fun hg21 => ?_) (fun hg21 => ?_)
    ·iterate 2 refine AX ?_
     refine .gs rfl rfl rfl (by assumption) (zH Tryz.call61 (evs2 rfl rfl) (asK l hk _ (by omega) _)) ?_
     rintro _ _ ⟨rfl, hH⟩
     obtain rfl := hH.symm
     iterate 4 refine AX ?_
     exact ⟨rfl, zZ rfl (by (simp [*]; done)) sX, rfl⟩
    ·iterate 7 refine AX ?_
     exact ⟨rfl, zZ rfl (by (simp [*]; done)) sX, rfl⟩
   ·refine AWP.sub [(27, _), (4, _), (5, _), (6, _)] sX ?_
    refine AWP.cx rfl (fun hc27 => ?_) (fun hc27 => ?_)
    ·simp only [Bool.and_eq_true, decide_eq_true_eq] at hc27
     iterate 8 refine AX ?_
     refine Ret.go (.cons (.tmp _ _ rfl) (.cons (.tmp _ _ rfl) .nil)) _ (Heap.le.refl _) ?_
     refine ⟨?_, rfl⟩
     unfold abX
     rw [if_neg (fun q => q.elim hc17.1 (fun q => alF.1 q hc17.2)), if_pos hc27]; rfl
    ·simp only [Bool.and_eq_false_iff, decide_eq_false_iff_not, Decidable.not_not] at hc27
     iterate 10 refine AX ?_
     refine Ret.go (.cons (.tmp _ _ rfl) (.cons (.tmp _ _ rfl) .nil)) _ (Heap.le.refl _) ?_
     refine ⟨?_, rfl⟩
     unfold abX
     rw [if_neg (fun q => q.elim hc17.1 (fun q => alF.1 q hc17.2)), if_neg (fun q => hc27.elim (fun h => q.1 h) (fun h => q.2 h))]; rfl
end Go.Proofs.YtfkeflcdadlmdaaGreatDoor
