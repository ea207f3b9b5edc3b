import Derived.Test.YtmmgbnolccpjoaaGreatDoorYd
import Derived.Test.YtmmgbnolccpjoaaGreatDoorT1
import Derived.Test.YtmmgbnolccpjoaaGreatDoorQ3
import Derived.Test.YtmmgbnolccpjoaaGreatDoorLgk
import Derived.Test.YtmmgbnolccpjoaaGreatDoorSsk
namespace Go.Proofs.YtmmgbnolccpjoaaGreatDoor
open Go Go.RowKit

def litV : AV → Value
 | .int k n => .int k n
 | .bool b => .bool b
 | _ => undef
set_option maxRecDepth 100000 in
theorem ayM : Tryz.zeroCells189 = ((qT fun _ => slotF).map litV).toArray := by kernel_rfl
theorem rel_lits {g : G} : ∀ {cs : List AV}, (∀ c, c ∈ cs → RelV g c (litV c)) → RelCells g cs (cs.map litV).toArray := fun {cs} h => by
 refine ⟨by simp, fun i c v hc hv => ?_⟩
 simp only [List.getElem?_toArray, List.getElem?_map, hc, Option.map_some, Option.some.injEq] at hv
 subst hv
 exact h c (List.mem_of_getElem? hc)
theorem zrR : ∀ g, RelCells g (qT fun _ => slotF) (Value.cells (Value.agg Tryz.zeroCells189)) := fun g => by
 show RelCells g _ Tryz.zeroCells189
 rw [ayM]
 refine rel_lits fun c hc => ?_
 unfold qT at hc
 obtain ⟨i, _, hc⟩ := List.mem_flatMap.1 hc
 simp only [slotF, List.mem_cons, List.not_mem_nil, or_false] at hc
 rcases hc with rfl | rfl | rfl | rfl | rfl | rfl | rfl <;> first | exact .int _ _ | exact .bool _
theorem plR (fs : Array Field) (hfs : Tryz.prog.underlying 189 = some (.struct fs)) : ∀ (i : Nat) f p, fs[i]? = some f → [(0, 5607)][i]? = some p → ∀ w, (sizeOf f.type).run Tryz.prog w = .ok p.2 w := by
 have e := (Option.some.inj (hfs.symm.trans Tryz.underlying189))
 cases e
 intro i f p hf hp w
 match i with
 | 0 => cases hf; cases hp; exact Tryz.sizeOf187 w
 | i + 1 => simp at hp
def aoF : Nat → List AV := fun _ => slotF
theorem asS : ROK aoF := fun _ => .inl rfl

set_option maxRecDepth 100000 in
theorem azL (H : Heap) : ACall Tryz.prog 90 [] H (fun y H' => ∃ b, H.objs b = none ∧ y = .ptr (some ⟨b, 0, none⟩) ∧ H' = H.set b (.box 189 (qT aoF))) := by
 refine ACall.of_body Tryz.func90 rfl Tryz.ntmps90 Tryz.results90 rfl ?_
 refine AX ?_
 -- region 0
 refine AX ?_
 refine AList.p rfl (zD ahM) ?_
 refine AList.nil ?_
 iterate 2 refine AX ?_
 -- region 1
 refine AX ?_
 refine AList.p rfl (zL [(0, 5607)] Tryz.underlying189 Tryz.zeroValue189 zrR rfl (plR _ Tryz.underlying189) .nil rfl) ?_
 refine AList.s rfl (ajP (.tmp _ _ rfl) (.inr ⟨_, rfl⟩)) ?_
 rintro _ _ ⟨b2, hb2, rfl, hH⟩
 obtain rfl := hH.symm
 refine AList.p rfl (zD (.tmp _ _ rfl)) ?_
 refine AList.nil ?_
 iterate 2 refine AX ?_
 -- ret 0
 refine Ret.go (.cons (.tmp _ _ rfl) .nil) _ (Heap.le.refl _) ?_
 exact ⟨b2, hb2, rfl, rfl⟩

theorem zr123 : ∀ g, RelCells g [.str [], .str [], .str [], .str [], .str [], .str [], .str [], .bool false, .bool false, .slice 1 [] .full, .ptr none] (Value.cells (Go.Value.agg #[Go.Value.string { data := #[] }, Go.Value.string { data := #[] }, Go.Value.string { data := #[] }, Go.Value.string { data := #[] }, Go.Value.string { data := #[] }, Go.Value.string { data := #[] }, Go.Value.string { data := #[] }, Go.Value.bool false, Go.Value.bool false, Go.Value.slice none 0 0, Go.Value.pointer none])) := fun g => RelL.cells (.cons ((.str [] (Nat.zero_le _))) (.cons ((.str [] (Nat.zero_le _))) (.cons ((.str [] (Nat.zero_le _))) (.cons ((.str [] (Nat.zero_le _))) (.cons ((.str [] (Nat.zero_le _))) (.cons ((.str [] (Nat.zero_le _))) (.cons ((.str [] (Nat.zero_le _))) (.cons (.bool _) (.cons (.bool _) (.cons (.nilSlice _ _) (.cons (.ptr _) .nil)))))))))))
theorem pl123 (fs : Array Field) (hfs : Tryz.prog.underlying 123 = some (.struct fs)) : ∀ (i : Nat) f p, fs[i]? = some f → [(0, 10), (10, 1)][i]? = some p → ∀ w, (sizeOf f.type).run Tryz.prog w = .ok p.2 w := by
 have e := (Option.some.inj (hfs.symm.trans Tryz.underlying123))
 cases e
 intro i f p hf hp w
 match i with
 | 0 => cases hf; cases hp; exact Tryz.sizeOf29 w
 | 1 => cases hf; cases hp; exact Tryz.sizeOf120 w
 | i + 2 => simp at hp

def erA (l : Loc) (b : Nat) : AV := .iptr ((pL l (szA l)).cells ++ [.ptr (some ⟨b, 0, none⟩)])

set_option maxRecDepth 100000 in
theorem bbE (l : Loc) (H : Heap) : ACall Tryz.prog 37 [pL l (szA l)] H (fun y H' => ∃ b, H.objs b = none ∧ y = erA l b ∧ H' = H.set b (.box 189 (qT aoF))) := by
 refine ACall.of_body Tryz.func37 rfl Tryz.ntmps37 Tryz.results37 rfl ?_
 refine AX ?_
 -- region 0
 refine AX ?_
 refine AList.s rfl (zO (.tmp _ _ rfl) (.inr ⟨_, rfl⟩)) ?_
 rintro _ _ ⟨rfl, hH⟩
 obtain rfl := hH.symm
 refine AList.p rfl (zD ahM) ?_
 refine AList.nil ?_
 iterate 2 refine AX ?_
 -- region 1
 refine AWP.draw [(0, true), (1, false), (2, true), (3, true), (4, true)] rfl (by decide +kernel) ?_
 first | (refine APlan.p rfl rfl (anS Tryz.isAgg29 Tryz.sizeOf29 (.tmp _ _ rfl) (Nat.le_of_ble_eq_true rfl)) ?_) | (refine APlan.f rfl rfl (fun _ => zV Tryz.isAgg29 Tryz.sizeOf29 (.tmp _ _ rfl) (by first | assumption | exact (by assumption : Heap.le _ _).objs _ _ (by assumption) | exact Heap.objs_set_same _ _ _ | exact (Heap.objs_set_ne _ _ (by assumption)).trans (Heap.objs_set_same _ _ _) | exact (Heap.objs_set_ne _ _ (by assumption)).trans ((Heap.objs_set_ne _ _ (by assumption)).trans (Heap.objs_set_same _ _ _)) | exact (Heap.objs_set_ne _ _ (by assumption)).trans (by assumption)) (Nat.le_of_ble_eq_true rfl)) ?_)
 refine APlan.s rfl rfl (zC Tryz.call90 .nil (azL _)) ?_
 rintro _ _ ⟨b, hb, rfl, rfl⟩
 refine APlan.p rfl rfl (zL [(0, 10), (10, 1)] Tryz.underlying123 Tryz.zeroValue123 (zr123) rfl (pl123 _ Tryz.underlying123) (.cons (.tmp _ _ rfl) (.inr ⟨_, rfl⟩) (.cons (.tmp _ _ rfl) (.inl rfl) .nil)) rfl) ?_
 refine APlan.f rfl rfl (fun _ => zO (.tmp _ _ rfl) (.inr ⟨_, rfl⟩)) ?_
 refine APlan.p rfl rfl (zD (.tmp _ _ rfl)) ?_
 refine APlan.nil ?_
 iterate 2 refine AX ?_
 -- ret 0
 refine Ret.go (.cons (.tmp _ _ rfl) .nil) _ (Heap.le.refl _) ?_
 exact ⟨b, hb, rfl, rfl⟩
def acL (l : Loc) (s : List UInt8) : List UInt8 × Bool :=
 if Lib.hasPrefix s [43] = true then (Lib.trimPrefix s [43], false)
 else if Lib.hasPrefix s [45] = true then (Lib.trimPrefix s [45], true)
 else if Lib.hasPrefix s l.minus = true then (Lib.trimPrefix s l.minus, true)
 else (s, false)
theorem arE (l : Loc) (s : List UInt8) : (acL l s).1.length ≤ s.length := by
 unfold acL
 repeat' split
 all_goals first | exact acU _ _ | exact Nat.le_refl _
def ahG (l : Loc) : List (List UInt8) := [[45], l.minus]
def bcI (l : Loc) (s : List UInt8) : Option Int :=
 if (acL l s).1 ≠ [] ∧ bgO (acL l s).1 = true ∧ (acL l s).1.length ≤ 9 then some (if (acL l s).2 = true then -(num (acL l s).1 : Int) else (num (acL l s).1 : Int)) else none
theorem bgC {l : Loc} {s t : List UInt8} {b : Bool} (ht : acL l s = (t, b)) (h : (ahP t || decide (9 < (t.length : Int)) || decide (aaD adC t.length t ≠ [])) = true) : bcI l s = none := by
 unfold bcI
 rw [ht, if_neg]
 rintro ⟨h1, h2, h3⟩
 have hd := adP.1 h2
 simp only [Bool.or_eq_true, decide_eq_true_eq] at h
 rcases h with (h | h) | h
 ·unfold ahP at h
  rw [awJ h1 hd (by have h4 : t.length ≤ 9 := h3; show t.length ≤ 18; omega)] at h
  cases h
 ·have h4 : t.length ≤ 9 := h3
  omega
 ·exact h ((aeJ _ _ (Nat.le_refl _)).2 hd)
theorem bgB {l : Loc} {s t : List UInt8} {b : Bool} (ht : acL l s = (t, b)) (h : (ahP t || decide (9 < (t.length : Int)) || decide (aaD adC t.length t ≠ [])) = false) : t ≠ [] ∧ Digs t ∧ t.length ≤ 9 ∧ bcI l s = some (if b = true then -(num t : Int) else (num t : Int)) := by
 simp only [Bool.or_eq_false_iff, decide_eq_false_iff_not, Decidable.not_not] at h
 obtain ⟨⟨h1, h2⟩, h3⟩ := h
 have hd := (aeJ _ _ (Nat.le_refl _)).1 h3
 have hne : t ≠ [] := by
  rintro rfl
  unfold ahP at h1
  simp [Lib.atoiAll] at h1
 refine ⟨hne, hd, by omega, ?_⟩
 unfold bcI
 rw [ht, if_pos ⟨hne, adP.2 hd, by simp only; omega⟩]
theorem num_9 {t : List UInt8} (hd : Digs t) (hl : t.length ≤ 9) : num t < 1000000000 := Nat.lt_of_lt_of_le (agA hd) (Nat.le_trans (Nat.pow_le_pow_right (by decide) hl) (by decide))

def sign_J (l : Loc) (b : Nat) (s : List UInt8) (H : Heap) : Nat → Env → Heap → Prop := fun k env H1 => ∃ i : Nat, i ≤ 2 ∧ (∀ j, j < i → Lib.hasPrefix s ((ahG l).getD j []) = false) ∧ env = [(1, .str s), (24, .slice 1 ((ahG l).map .str) .full), (25, .int .i64 2), (26, .int .i64 (i : Int))] ∧ H = H1 ∧ k = 2 - i

set_option maxRecDepth 100000 in
theorem anI (l : Loc) (b : Nat) (s : List UInt8) (H : Heap) : ACall Tryz.prog 95 [erA l b, .str s] H (fun y H' => y = .tuple [.str (acL l s).1, .bool (acL l s).2] ∧ H' = H) := by
 refine ACall.of_body Tryz.func95 rfl Tryz.ntmps95 Tryz.results95 rfl ?_
 iterate 10 refine AX ?_
 refine .cl rfl Tryz.call93 (.cons (tm rfl) (.cons (zM rfl) .nil)) (cutPrefixA _ _ _) ?_
 iterate 12 refine AX ?_
 refine AWP.cx rfl (fun hc17 => ?_) (fun hc17 => ?_)
 ·iterate 9 refine AX ?_
  refine Ret.go (.cons (.tmp _ _ rfl) (.cons (.tmp _ _ rfl) .nil)) _ (Heap.le.refl _) ?_
  refine ⟨?_, rfl⟩
  unfold acL
  rw [if_pos hc17]; rfl
 ·iterate 7 refine AX ?_
  refine .p rfl (zA Tryz.underlying123 rfl Tryz.sizeOf29 (tm rfl)) (.p rfl (zA Tryz.underlying29 rfl Tryz.sizeOf9 (tm rfl)) ?_)
  refine AX ?_
  refine .e rfl (afO Tryz.underlying51 Tryz.sizeOf9 Tryz.zeroValue9 rfl (zM rfl) (.inl rfl) ⟨rfl, rfl⟩ (tm rfl) (.inl rfl) ⟨rfl, rfl⟩) (.p rfl (adZ Tryz.underlying51 (tm rfl)) ?_)
  iterate 4 refine AX ?_
  refine AWP.loopW (sign_J l b s H) (2) ⟨0, by omega, fun j h => absurd h (Nat.not_lt_zero _), rfl, rfl, rfl⟩ sX (Heap.le.refl _) ?_
  rintro _ _ _ ⟨i, hi, hp, rfl, rfl, rfl⟩
  iterate 6 refine AX ?_
  refine AWP.cx rfl (fun hc27 => ?_) (fun hc27 => ?_)
  ·have hi2 : i < 2 := by omega
   have hil : i < (ahG l).length := hi2
   have hgi : (ahG l)[i] = (ahG l).getD i [] := by rw [List.getD_eq_getElem?_getD, List.getElem?_eq_getElem hil]; rfl
   iterate 15 refine AX ?_
   refine .cl rfl Tryz.call93 (evs2 rfl rfl) (cutPrefixA _ _ _) ?_
   iterate 12 refine AX ?_
   refine AWP.cx rfl (fun hc36 => ?_) (fun hc36 => ?_)
   ·iterate 13 refine AX ?_
    refine Ret.go (.cons (.tmp _ _ rfl) (.cons (.tmp _ _ rfl) .nil)) _ (Heap.le.refl _) ?_
    refine ⟨?_, rfl⟩
    unfold acL
    rcases (by omega : i = 0 ∨ i = 1) with rfl | rfl
    ·rw [if_neg (by simp [hc17]), if_pos (show Lib.hasPrefix s [45] = true from hc36)]; rfl
    ·rw [if_neg (by simp [hc17]), if_neg (by have := hp 0 (by decide); simpa [ahG] using this), if_pos (show Lib.hasPrefix s l.minus = true from hc36)]; rfl
   ·iterate 8 refine AX ?_
    have hpi : Lib.hasPrefix s ((ahG l).getD i []) = false := by rw [← hgi]; exact hc36
    refine Round.mk (J := sign_J l b s H) ⟨i + 1, by omega, fun j hj => by rcases Nat.lt_or_ge j i with h | h; exact hp j h; rw [show j = i by omega]; exact hpi, rfl, rfl, rfl⟩ sX (Heap.le.refl _) (by omega)
  ·iterate 13 refine AX ?_
   refine Ret.go (.cons (.tmp _ _ rfl) (.cons (.tmp _ _ rfl) .nil)) _ (Heap.le.refl _) ?_
   refine ⟨?_, rfl⟩
   unfold acL
   have h2 : i = 2 := by omega
   subst h2
   rw [if_neg (by simp [hc17]), if_neg (by have := hp 0 (by decide); simpa [ahG] using this), if_neg (by have := hp 1 (by decide); simpa [ahG] using this)]; rfl

set_option maxRecDepth 100000 in
theorem amX (l : Loc) (b : Nat) (s : List UInt8) (hs : s.length ≤ 2000) (H : Heap) : ACall Tryz.prog 211 [erA l b, .str s] H (fun y H' => y = .tuple [.int .i64 ((bcI l s).getD 0), .bool (bcI l s).isSome] ∧ H' = H) := by
 have hsl := arE l s
 obtain ⟨⟨t, m⟩, ht⟩ : ∃ q, acL l s = q := ⟨_, rfl⟩
 rw [ht] at hsl
 have hsl2 : t.length ≤ 2000 := by have : t.length ≤ s.length := hsl; omega
 refine ACall.of_body Tryz.func211 rfl Tryz.ntmps211 Tryz.results211 rfl ?_
 iterate 10 refine AX ?_
 refine .cl rfl Tryz.call95 (evs2 rfl rfl) ((by have h := anI l b s; rw [ht] at h; exact h _)) ?_
 iterate 10 refine AX ?_
 refine .s rfl (zC Tryz.call257 (evs1 rfl) (atoiAny t (by omega) _)) ?_
 rintro _ _ ⟨⟨v, ev, rfl, hev, hv⟩, hH⟩
 obtain rfl := hH.symm
 iterate 8 refine AX ?_
 refine AWP.seqTo 31 (.bool (ahP t || decide (9 < (t.length : Int)) || decide (aaD adC t.length t ≠ []))) [4, 5, 6, 7] ?_ ?_
 ·-- region 3
  iterate 2 refine AX ?_
  refine .p rfl (azP Tryz.underlying233 (tm rfl) hev) ?_
  refine AX ?_
  refine zH (t := 22) rfl (fun hg22 => ?_) (fun hg22 => ?_)
  ·iterate 10 refine AX ?_
   exact ⟨rfl, zS rfl (by (rw [show ahP t = _ from hg22]; rfl)) sX, rfl⟩
  ·iterate 5 refine AX ?_
   refine zH (t := 27) rfl (fun hg27 => ?_) (fun hg27 => ?_)
   ·iterate 5 refine AX ?_
    exact ⟨rfl, zS rfl (by (rw [show ahP t = _ from hg22, show decide (9 < (t.length : Int)) = _ from hg27]; rfl)) sX, rfl⟩
   ·refine AX ?_
    refine .gs rfl rfl rfl (by assumption) (zC Tryz.call96 (.cons (tm rfl) (.cons (.func _) .nil)) (trimDigitsA t _)) ?_
    rintro _ _ ⟨rfl, hH⟩
    obtain rfl := hH.symm
    iterate 3 refine AX ?_
    exact ⟨rfl, zS rfl (by (simp [*]; done)) sX, rfl⟩
 ·refine AWP.sub [(31, _), (4, _), (5, _), (6, _), (7, _)] sX ?_
  refine AWP.cx rfl (fun hc31 => ?_) (fun hc31 => ?_)
  ·have hex := bgC ht hc31
   iterate 8 refine AX ?_
   refine Ret.go (.cons (.tmp _ _ rfl) (.cons (.tmp _ _ rfl) .nil)) _ (Heap.le.refl _) ?_
   refine ⟨?_, rfl⟩
   rw [hex]; rfl
  ·obtain ⟨hne, hdt, hl9, hex⟩ := bgB ht hc31
   have hv2 : v = (num t : Int) := by
    simp only [Bool.or_eq_false_iff] at hc31
    have h1 := hv hc31.1.1
    rw [awJ hne hdt (by omega)] at h1
    injection h1 with h1; exact h1.symm
   subst hv2
   have hn9 := num_9 hdt hl9
   iterate 2 refine AX ?_
   refine AWP.seqToL [(7, .int .i64 (if m = true then -(num t : Int) else (num t : Int)))] [4, 5] ?_ ?_
   ·iterate 5 refine AX ?_
    refine AWP.cx rfl (fun hc32 => ?_) (fun hc32 => ?_)
    ·iterate 5 refine AX ?_
     exact ⟨rfl, (zZ rfl (by (rw [if_pos (show m = true from hc32)]; done)) sX), rfl⟩
    ·refine AX ?_
     exact ⟨rfl, (zZ rfl (by (rw [if_neg (by rw [show m = false from hc32]; decide)]; done)) sX), rfl⟩
   ·refine AWP.sub [(7, _), (4, _), (5, _)] sX ?_
    iterate 8 refine AX ?_
    refine Ret.go (.cons (.tmp _ _ rfl) (.cons (.tmp _ _ rfl) .nil)) _ (Heap.le.refl _) ?_
    refine ⟨?_, rfl⟩
    rw [hex]; rfl
def adG (l : Loc) (i : Nat) : Nat := if i = 0 then 3 else if l.second = 2 then 2 else 3
def szI (l : Loc) : List Int := if l.second = 2 then [3, 2] else [3]
theorem bdA (l : Loc) : (szI l).length = (if l.second = 2 then 2 else 1) ∧ ∀ (j : Nat) (h : j < (szI l).length), (szI l)[j] = if j = 0 then 3 else 2 := by
 unfold szI
 split
 ·refine ⟨rfl, fun j h => ?_⟩
  match j, h with
  | 0, _ => rfl
  | 1, _ => rfl
 ·refine ⟨rfl, fun j h => ?_⟩
  match j, h with
  | 0, _ => rfl
theorem akL (l : Loc) (i : Nat) : 2 ≤ adG l i ∧ adG l i ≤ 3 := by
 unfold adG; repeat' split
 all_goals omega
theorem size_max (l : Loc) (i : Nat) : asQ 1 (if (bcH (i : Int) (((szI l).length : Int) - 1)).toNat = 0 then 3 else 2) = (adG l i : Int) := by
 rw [(bdA l).1]
 unfold adG
 simp only [asQ, bcH]
 repeat' split
 all_goals (first | omega | (exfalso; simp_all; done) | simp_all)
def avS (l : Loc) : Nat → Nat → List UInt8 → List UInt8 → List UInt8
 | 0, _, d, s => d ++ s
 | f + 1, i, d, s => if adG l i < d.length then avS l f (i + 1) (d.take (d.length - adG l i)) (l.grp ++ d.drop (d.length - adG l i) ++ s) else d ++ s
theorem asR (l : Loc) : ∀ (f g i : Nat) (d s : List UInt8), d.length ≤ f → d.length ≤ g → avS l f i d s = avS l g i d s
 | 0, 0, _, _, _, _, _ => rfl
 | 0, g + 1, i, d, s, hf, _ => by
  unfold avS
  rw [if_neg (by omega)]
 | f + 1, 0, i, d, s, _, hg => by
  unfold avS
  rw [if_neg (by omega)]
 | f + 1, g + 1, i, d, s, hf, hg => by
  have := akL l i
  unfold avS
  split
  ·exact asR l f g _ _ _ (by rw [List.length_take]; omega) (by rw [List.length_take]; omega)
  ·rfl
def axX (l : Loc) (d : List UInt8) : List UInt8 := avS l d.length 0 d []
theorem bfS {l : Loc} {i : Nat} {d s : List UInt8} (h : adG l i < d.length) : avS l d.length i d s = avS l (d.take (d.length - adG l i)).length (i + 1) (d.take (d.length - adG l i)) (l.grp ++ d.drop (d.length - adG l i) ++ s) := by
 have h2 := akL l i
 obtain ⟨n, hn⟩ : ∃ n, d.length = n + 1 := ⟨d.length - 1, by omega⟩
 have e : avS l d.length i d s = avS l (n + 1) i d s := by rw [hn]
 rw [e, avS, if_pos h]
 refine asR l _ _ _ _ _ ?_ ?_ <;> simp only [List.length_take] <;> omega
theorem grpG_end {l : Loc} {i : Nat} {d s : List UInt8} (h : ¬ adG l i < d.length) : avS l d.length i d s = d ++ s := by
 cases hd : d.length with
 | zero => rfl
 | succ n => rw [avS, if_neg h]
theorem axO (x : UInt8) : ([48, 49, 50, 51, 52, 53, 54, 55, 56, 57] : List UInt8).contains x = true ↔ isD x := by
 have key : ∀ n : Fin 256, (([48, 49, 50, 51, 52, 53, 54, 55, 56, 57] : List UInt8).contains (UInt8.ofNat n.1)) = decide (48 ≤ n.1 ∧ n.1 ≤ 57) := by decide +kernel
 have hx := key ⟨x.toNat, x.toNat_lt⟩
 rw [show UInt8.ofNat x.toNat = x by simp] at hx
 rw [hx, decide_eq_true_eq]
 rfl
theorem amD {p : UInt8 → Bool} : ∀ {l : List UInt8}, l.dropWhile p = [] ↔ ∀ x, x ∈ l → p x = true
 | [] => by simp
 | x :: l => by
  rw [List.dropWhile_cons]
  split
  ·rename_i h
   rw [amD]
   constructor
   ·intro q y hy
    rcases List.mem_cons.1 hy with rfl | hy
    ·exact h
    ·exact q y hy
   ·intro q y hy; exact q y (by simp [hy])
  ·rename_i h
   constructor
   ·intro q; simp at q
   ·intro q; exact absurd (q x (by simp)) h
theorem aiV (s : List UInt8) : Lib.trimS s [48, 49, 50, 51, 52, 53, 54, 55, 56, 57] = [] ↔ Digs s := by
 show ((s.reverse.dropWhile (([48, 49, 50, 51, 52, 53, 54, 55, 56, 57] : List UInt8).contains ·)).reverse.dropWhile (([48, 49, 50, 51, 52, 53, 54, 55, 56, 57] : List UInt8).contains ·)) = [] ↔ _
 rw [amD]
 constructor
 ·intro h
  have h1 : s.reverse.dropWhile (([48, 49, 50, 51, 52, 53, 54, 55, 56, 57] : List UInt8).contains ·) = [] := by
   cases hc : s.reverse.dropWhile (([48, 49, 50, 51, 52, 53, 54, 55, 56, 57] : List UInt8).contains ·) with
   | nil => rfl
   | cons x r =>
    have hx := h x (by rw [hc]; simp)
    have hn := List.head?_dropWhile_not (p := fun x => ([48, 49, 50, 51, 52, 53, 54, 55, 56, 57] : List UInt8).contains x) (l := s.reverse)
    rw [hc] at hn
    simp only [List.head?_cons] at hn
    rw [hx] at hn; cases hn
  intro x hx
  exact (axO x).1 (amD.1 h1 x (by simpa using hx))
 ·intro h x hx
  refine (axO x).2 (h x ?_)
  have := (List.dropWhile_sublist (l := s.reverse) (([48, 49, 50, 51, 52, 53, 54, 55, 56, 57] : List UInt8).contains ·)).subset (by simpa using hx)
  simpa using this
def afD (l : Loc) (s : List UInt8) : Option (List UInt8) :=
 if Lib.replaceAll s l.grp [] = [] ∨ bgO (Lib.replaceAll s l.grp []) = false then none
 else if Lib.replaceAll s l.grp [] ≠ s ∧ axX l (Lib.replaceAll s l.grp []) ≠ s then none
 else some (Lib.replaceAll s l.grp [])
theorem aqF {s : List UInt8} : bgO s = false ↔ ¬ Digs s := by
 rw [← adP]; simp

set_option maxRecDepth 100000 in
theorem alN (l : Loc) (i : Nat) (hi : i ≤ 100000) (H : Heap) : ACall Tryz.prog 233 [pL l (szA l), .int .i64 (i : Int)] H (fun y H' => y = .int .i64 (adG l i : Int) ∧ H' = H) := by
 have hz : szA l = .slice 1 ((szI l).map (.int .i64)) .full := rfl
 rw [hz]
 obtain ⟨hl, hg⟩ := bdA l
 have hl2 : 1 ≤ (szI l).length ∧ (szI l).length ≤ 2 := by rw [hl]; split <;> omega
 have hm := size_max l i
 refine ACall.of_body Tryz.func233 rfl Tryz.ntmps233 Tryz.results233 rfl ?_
 iterate 2 refine AX ?_
 refine .e rfl (zO (tm rfl) (.inr ⟨_, rfl⟩)) ?_
 iterate 6 refine AX ?_
 refine .p rfl (zA Tryz.underlying29 rfl Tryz.sizeOf27 (tm rfl)) ?_
 iterate 5 refine AX ?_
 refine AWP.cond_false (tm rfl) (by exact decide_eq_false (by omega)) ?_
 iterate 4 refine AX ?_
 refine .p rfl (zA Tryz.underlying29 rfl Tryz.sizeOf27 (tm rfl)) ?_
 iterate 2 refine AX ?_
 refine .p rfl (zA Tryz.underlying29 rfl Tryz.sizeOf27 (tm rfl)) ?_
 iterate 4 refine AX ?_
 refine .p rfl (alD Tryz.underlying27 Tryz.sizeOf3 (tm rfl) (tm rfl) (by simp only [bcH]; split <;> omega) (by simp only [bcH]; split <;> omega)) ?_
 iterate 6 refine AX ?_
 refine Ret.go (.cons (.tmp _ _ rfl) .nil) _ (Heap.le.refl _) ?_
 refine ⟨?_, rfl⟩
 rw [← hm, ← hg]
 rfl

def bfT (l : Loc) (d0 : List UInt8) (H : Heap) : Nat → Env → Heap → Prop := fun k env H1 => ∃ (i : Nat) (d s : List UInt8), avS l d.length i d s = axX l d0 ∧ i + d.length ≤ d0.length ∧ s.length + d.length ≤ d0.length + 10 * i ∧ env = [(1, .str d), (2, .iptr (pL l (szA l)).cells), (5, .str s), (6, .int .i64 (i : Int))] ∧ H = H1 ∧ k = d.length

set_option maxRecDepth 100000 in
theorem aqP (l : Loc) (hk : l.ok) (d0 : List UInt8) (hd0 : d0.length ≤ 10000) (H : Heap) : ACall Tryz.prog 176 [pL l (szA l), .str d0] H (fun y H' => y = .str (axX l d0) ∧ H' = H) := by
 obtain ⟨hk1, hk2, hk3, hk4, hk5⟩ := hk
 refine ACall.of_body Tryz.func176 rfl Tryz.ntmps176 Tryz.results176 rfl ?_
 iterate 2 refine AX ?_
 refine .e rfl (zO (tm rfl) (.inr ⟨_, rfl⟩)) ?_
 iterate 15 refine AX ?_
 refine AWP.loopW (bfT l d0 H) (d0.length) ⟨0, d0, [], rfl, by omega, by simp, rfl, rfl, rfl⟩ sX (Heap.le.refl _) ?_
 rintro _ _ _ ⟨i, d, s, hg, hi, hl, rfl, rfl, rfl⟩
 have hz := akL l i
 iterate 7 refine AX ?_
 refine .cl rfl Tryz.call233 (evs2 rfl rfl) (alN l i (by omega) _) ?_
 iterate 3 refine AX ?_
 refine AWP.cx rfl (fun hc13 => ?_) (fun hc13 => ?_)
 ·have hgt : adG l i < d.length := by omega
  iterate 10 refine AX ?_
  refine .cl rfl Tryz.call233 (evs2 rfl rfl) (alN l i (by omega) _) ?_
  iterate 5 refine AX ?_
  refine AWP.draw [(0, true), (1, true), (2, true), (3, true), (4, true), (5, true), (6, true), (7, true), (8, true)] rfl (by decide +kernel) ?_
  refine .p rfl rfl (zA Tryz.underlying29 rfl Tryz.sizeOf9 (tm rfl)) ?_
  iterate 4 refine AX ?_
  refine .p rfl rfl (yD (tm rfl) (tm rfl) (by rw [zN]; simp only [List.length_drop]; omega)) ?_
  refine AX ?_
  refine .p rfl rfl (yD (tm rfl) (tm rfl) (by rw [zN]; simp only [List.length_append, List.length_drop]; omega)) ?_
  iterate 17 refine AX ?_
  have hcut : ((d.length : Int) - (adG l i : Int)).toNat = d.length - adG l i := by omega
  have htl : (d.take (d.length - adG l i)).length = d.length - adG l i := by rw [List.length_take]; omega
  rw [hcut]
  refine Round.mk (J := bfT l d0 H) ⟨i + 1, (d.take (d.length - adG l i)), l.grp ++ d.drop (d.length - adG l i) ++ s, by rw [← hg]; exact (bfS hgt).symm, by omega, by simp only [List.length_append, List.length_drop]; omega, rfl, rfl, rfl⟩ (zP rfl (zP rfl (zP rfl (zZ rfl (by congr 1) qM)))) (Heap.le.refl _) (by omega)
 ·have hng : ¬ adG l i < d.length := by omega
  iterate 9 refine AX ?_
  refine .p rfl (yD (tm rfl) (tm rfl) (by rw [zN]; omega)) ?_
  iterate 4 refine AX ?_
  refine Ret.go (.cons (.tmp _ _ rfl) .nil) _ (Heap.le.refl _) ?_
  refine ⟨?_, rfl⟩
  rw [← hg, grpG_end hng]; rfl

theorem axF (s old : List UInt8) : (Lib.replaceAll s old []).length ≤ s.length := by
 have := afZ s old []
 simpa using this

set_option maxRecDepth 100000 in
theorem awM (l : Loc) (hk : l.ok) (hg : l.grp ≠ []) (s : List UInt8) (hs : s.length ≤ 9000) (H : Heap) : ACall Tryz.prog 214 [pL l (szA l), .str s] H (fun y H' => y = .tuple [.str ((afD l s).getD []), .bool (afD l s).isSome] ∧ H' = H) := by
 have hql := axF s l.grp
 have hgp := List.length_pos_iff.2 hg
 refine ACall.of_body Tryz.func214 rfl Tryz.ntmps214 Tryz.results214 rfl ?_
 iterate 2 refine AX ?_
 refine .e rfl (zO (tm rfl) (.inr ⟨_, rfl⟩)) ?_
 iterate 7 refine AX ?_
 refine .p rfl (zA Tryz.underlying29 rfl Tryz.sizeOf9 (tm rfl)) ?_
 refine AX ?_
 refine .cl rfl Tryz.call210 (.cons (tm rfl) (.cons (tm rfl) (.cons (zM rfl) .nil))) (replaceA s l.grp [] (by omega) (by omega) (by simp) _) ?_
 iterate 4 refine AX ?_
 refine AWP.seqTo 17 (.bool (decide ((Lib.replaceAll s l.grp []) = []) || decide (Lib.trimS (Lib.replaceAll s l.grp []) [48, 49, 50, 51, 52, 53, 54, 55, 56, 57] ≠ []))) [1, 2, 4, 5, 6] ?_ ?_
 ·-- region 2
  iterate 4 refine AX ?_
  refine zH (t := 13) rfl (fun hg13 => ?_) (fun hg13 => ?_)
  ·iterate 5 refine AX ?_
   exact ⟨rfl, zS rfl (by (simp [*]; done)) sX, rfl⟩
  ·refine AX ?_
   refine .gs rfl rfl rfl (by assumption) (zC Tryz.call259 (.cons (tm rfl) (.cons (zM rfl) .nil)) (trimSetA [48, 49, 50, 51, 52, 53, 54, 55, 56, 57] (by decide) (by decide) _ _)) ?_
   rintro _ _ ⟨rfl, hH⟩
   obtain rfl := hH.symm
   iterate 3 refine AX ?_
   exact ⟨rfl, zS rfl (by (simp [*]; done)) sX, rfl⟩
 ·refine AWP.sub [(17, _), (1, _), (2, _), (4, _), (5, _), (6, _)] sX ?_
  refine AWP.cx rfl (fun hc17 => ?_) (fun hc17 => ?_)
  ·simp only [Bool.or_eq_true, decide_eq_true_eq] at hc17
   rw [aiV] at hc17
   iterate 8 refine AX ?_
   refine Ret.go (.cons (.tmp _ _ rfl) (.cons (.tmp _ _ rfl) .nil)) _ (Heap.le.refl _) ?_
   refine ⟨?_, rfl⟩
   unfold afD
   rw [if_pos (hc17.imp id aqF.2)]; rfl
  ·simp only [Bool.or_eq_false_iff, decide_eq_false_iff_not, Decidable.not_not] at hc17
   rw [aiV] at hc17
   iterate 3 refine AX ?_
   refine AWP.seqTo 27 (.bool (decide ((Lib.replaceAll s l.grp []) ≠ s) && decide (axX l (Lib.replaceAll s l.grp []) ≠ s))) [4, 5, 6] ?_ ?_
   ·-- region 4
    iterate 5 refine AX ?_
    refine zH (t := 21) rfl (fun hg21 => ?_) (fun hg21 => ?_)
    ·iterate 2 refine AX ?_
     refine .gs rfl rfl rfl (by assumption) (zC Tryz.call176 (evs2 rfl rfl) (aqP l hk _ (by omega) _)) ?_
     rintro _ _ ⟨rfl, hH⟩
     obtain rfl := hH.symm
     iterate 4 refine AX ?_
     exact ⟨rfl, zS rfl (by (simp [*]; done)) sX, rfl⟩
    ·iterate 7 refine AX ?_
     exact ⟨rfl, zS rfl (by (simp [*]; done)) sX, rfl⟩
   ·refine AWP.sub [(27, _), (4, _), (5, _), (6, _)] sX ?_
    refine AWP.cx rfl (fun hc27 => ?_) (fun hc27 => ?_)
    ·simp only [Bool.and_eq_true, decide_eq_true_eq] at hc27
     iterate 8 refine AX ?_
     refine Ret.go (.cons (.tmp _ _ rfl) (.cons (.tmp _ _ rfl) .nil)) _ (Heap.le.refl _) ?_
     refine ⟨?_, rfl⟩
     unfold afD
     rw [if_neg (fun q => q.elim hc17.1 (fun q => aqF.1 q hc17.2)), if_pos hc27]; rfl
    ·simp only [Bool.and_eq_false_iff, decide_eq_false_iff_not, Decidable.not_not] at hc27
     iterate 10 refine AX ?_
     refine Ret.go (.cons (.tmp _ _ rfl) (.cons (.tmp _ _ rfl) .nil)) _ (Heap.le.refl _) ?_
     refine ⟨?_, rfl⟩
     unfold afD
     rw [if_neg (fun q => q.elim hc17.1 (fun q => aqF.1 q hc17.2)), if_neg (fun q => hc27.elim (fun h => q.1 h) (fun h => q.2 h))]; rfl
end Go.Proofs.YtmmgbnolccpjoaaGreatDoor
