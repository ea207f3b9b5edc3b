import Derived.Test.YtfkeflcdadlmdaaGreatDoorYd
import Derived.Test.YtfkeflcdadlmdaaGreatDoorSsk
import Derived.Test.YtfkeflcdadlmdaaGreatDoorS6
import Derived.Test.YtfkeflcdadlmdaaGreatDoorU1
import Derived.Test.YtfkeflcdadlmdaaGreatDoorB4
import Derived.Test.YtfkeflcdadlmdaaGreatDoorU2
namespace Go.Proofs.YtfkeflcdadlmdaaGreatDoor
open Go Go.RowKit

open Go.Lib
theorem apW {s p : List UInt8} (h : hasPrefix s p = true) : p.length ≤ s.length := by
 obtain ⟨z, rfl⟩ := abT.1 h
 rw [List.length_append]; omega
theorem gR_step {l : Loc} {d : List UInt8} {i : Nat} (h : i < d.length) : gRo l 0 (d.drop i) (decide (i = 0)) = (if 0 < i ∧ ahA l (d.length - i) then l.grp else []) ++ ([d.getD i 0] ++ gRo l 0 (d.drop (i + 1)) (decide (i + 1 = 0))) := by
 rw [List.drop_eq_getElem_cons h, gRo, decide_eq_false (show ¬ i + 1 = 0 by omega), List.length_drop, List.getD_eq_getElem?_getD, List.getElem?_eq_getElem h]
 have e : d.length - (i + 1) + 1 + 0 = d.length - i := by omega
 rw [e]
 by_cases hi : i = 0
 ·subst hi; simp
 ·rw [decide_eq_false hi]
  by_cases hm : ahA l (d.length - i)
  ·rw [if_pos ⟨rfl, hm⟩, if_pos ⟨by omega, hm⟩]; rfl
  ·rw [if_neg (fun q => hm q.2), if_neg (fun q => hm q.2)]; rfl
theorem mark_i {l : Loc} {d i : Nat} (h : (3 : Int) ≤ (d : Int) - (i : Int)) : ((d : Int) - (i : Int) - 3).tmod (l.second : Int) = 0 ↔ ahA l (d - i) := by
 have e : (d : Int) - (i : Int) - 3 = ((d - i - 3 : Nat) : Int) := by omega
 unfold ahA secL
 rw [e, ← Int.ofNat_tmod]
 omega
theorem mark_n {l : Loc} {d i : Nat} (h : (d : Int) - (i : Int) < 3) : ¬ ahA l (d - i) := fun q => by
 have := q.1
 omega

def rgrp_J (l : Loc) (d : List UInt8) (H : Heap) : Nat → Env → Heap → Prop := fun k env H1 => ∃ (i : Nat) (o : List UInt8), i ≤ d.length ∧ o ++ (gRo l 0 (d.drop i) (decide (i = 0))) = gR l d ∧ o.length ≤ 11 * i ∧ env = [(1, .str d), (2, .iptr (rL l).cells), (5, .str o), (6, .int .i64 (i : Int))] ∧ H = H1 ∧ k = d.length - i

set_option maxRecDepth 100000 in
theorem aoG (l : Loc) (hk : l.ok) (hs2 : l.second = 2 ∨ l.second = 3) (d : List UInt8) (hd : d.length ≤ 10000) (H : Heap) : ACall Tryz.prog 79 [rL l, .str d] H (fun y H' => y = .str (gR l d) ∧ H' = H) := by
 obtain ⟨hk1, hk2, hk3, hk4, hk5⟩ := hk
 have hml := zP
 refine ACall.of_body Tryz.func79 rfl Tryz.ntmps79 Tryz.results79 rfl ?_
 iterate 2 refine AX ?_
 refine .e rfl (yF (tm rfl) (.inr ⟨_, rfl⟩)) ?_
 iterate 15 refine AX ?_
 refine AWP.loopW (rgrp_J l d H) (d.length) ⟨0, [], by omega, rfl, by simp, rfl, rfl, rfl⟩ sX (Heap.le.refl _) ?_
 rintro _ _ _ ⟨i, o, hi, hg, hl, rfl, rfl, rfl⟩
 iterate 9 refine AX ?_
 refine AWP.cx rfl (fun hc11 => ?_) (fun hc11 => ?_)
 ·iterate 9 refine AX ?_
  refine .p rfl (zO (tm rfl) (tm rfl) (by omega)) ?_
  iterate 3 refine AX ?_
  refine AWP.seqToL [(5, .str (o ++ (if 0 < i ∧ ahA l (d.length - i) then l.grp else [])))] [1, 2, 6] ?_ ?_
  ·refine AWP.seqTo 31 (.bool (decide (0 < i ∧ ahA l (d.length - i)))) [1, 2, 5, 6] ?_ ?_
   ·-- region 6
    iterate 4 refine AX ?_
    refine zI (t := 20) rfl (fun hg20 => ?_) (fun hg20 => ?_)
    ·iterate 4 refine AX ?_
     refine zI (t := 24) rfl (fun hg24 => ?_) (fun hg24 => ?_)
     ·refine AX ?_
      refine .gp rfl rfl rfl (by assumption) (zO (tm rfl) zF (by omega)) (.gp rfl rfl rfl (by assumption) (zA Tryz.underlying27 rfl Tryz.sizeOf3 (tm rfl)) ?_)
      refine AX ?_
      refine .gp rfl rfl rfl (by assumption) (akW (tm rfl) (tm rfl) (by omega)) ?_
      iterate 3 refine AX ?_
      exact ⟨rfl, zZ rfl (by (simp_all; exact mark_i (by omega))) sX, rfl⟩
     ·iterate 8 refine AX ?_
      exact ⟨rfl, zZ rfl (by (simp_all; exact mark_n (by omega))) sX, rfl⟩
    ·iterate 12 refine AX ?_
     exact ⟨rfl, zZ rfl (by simp_all) sX, rfl⟩
   ·refine AWP.sub [(31, _), (1, _), (2, _), (5, _), (6, _)] sX ?_
    refine AWP.cx rfl (fun hc31 => ?_) (fun hc31 => ?_)
    ·iterate 2 refine AX ?_
     refine .p rfl (zA Tryz.underlying27 rfl Tryz.sizeOf9 (tm rfl)) ?_
     refine AX ?_
     refine .p rfl (yE (tm rfl) (tm rfl) (by rw [zP]; omega)) ?_
     iterate 2 refine AX ?_
     exact ⟨rfl, (zW rfl (by (rw [if_pos (by assumption)]; done)) sX), rfl⟩
    ·refine AX ?_
     exact ⟨rfl, (zW rfl (by (rw [if_neg (by assumption), List.append_nil]; done)) sX), rfl⟩
  ·refine AWP.sub [(5, _), (1, _), (2, _), (6, _)] sX ?_
   iterate 5 refine AX ?_
   refine .p rfl (zK (tm rfl) zF (by omega)) (.p rfl (afE Tryz.underlying9 (tm rfl) (tm rfl) (tm rfl) (by omega) (by omega) (by omega)) (.p rfl (yE (tm rfl) (tm rfl) (by rw [zP]; simp only [List.length_append, List.length_drop, List.length_take]; (try split) <;> (try simp only [List.length_nil]) <;> omega)) ?_))
   iterate 6 refine AX ?_
   refine .p rfl (zK (tm rfl) zF (by omega)) ?_
   iterate 3 refine AX ?_
   have hst := gR_step (l := l) (show i < d.length by omega)
   refine Round.mk (J := rgrp_J l d H) ⟨i + 1, o ++ ((if 0 < i ∧ ahA l (d.length - i) then l.grp else []) ++ [d.getD i 0]), by omega, by rw [← hg, hst]; simp only [List.append_assoc], by simp only [List.length_append, List.length_cons, List.length_nil]; split <;> (try simp only [List.length_nil]) <;> omega, rfl, rfl, rfl⟩ (yC rfl (yC rfl (zW rfl (by rw [show ((i : Int)).toNat = i from rfl, show ((i : Int) + 1).toNat = i + 1 by omega, bfV (by omega), List.append_assoc]) (yC rfl yX)))) (Heap.le.refl _) (by omega)
 ·iterate 12 refine AX ?_
  refine Ret.go (.cons (.tmp _ _ rfl) .nil) _ (Heap.le.refl _) ?_
  refine ⟨?_, rfl⟩
  have hi2 : i = d.length := by omega
  subst hi2
  rw [List.drop_length] at hg
  rw [← hg]; show AV.str o = .str (o ++ [])
  rw [List.append_nil]

theorem row_bv (s : List UInt8) : ∀ x, x ∈ s.map bv → x.row 1 := fun x hx => by
 obtain ⟨b, _, rfl⟩ := List.mem_map.1 hx
 exact ⟨rfl, rfl⟩
theorem bv_snoc (o : List UInt8) (c : UInt8) : o.map bv ++ [.int .u8 ((c.toNat : Nat) : Int)] = (o ++ [c]).map bv := by rw [List.map_append]; rfl
theorem alU {l : Loc} (hg : l.grp ≠ []) : ∀ (f g : Nat) (s : List UInt8), s.length ≤ f → s.length ≤ g → acH l f s = acH l g s
 | 0, 0, _, _, _ => rfl
 | 0, g + 1, s, h, _ => by
  have : s = [] := List.length_eq_zero_iff.1 (by omega)
  subst this; simp [acH]
 | f + 1, 0, s, _, h => by
  have : s = [] := List.length_eq_zero_iff.1 (by omega)
  subst this; simp [acH]
 | f + 1, g + 1, s, h1, h2 => by
  have := List.length_pos_iff.2 hg
  rw [acH, acH, alU hg f g (s.drop 1) (by rw [List.length_drop]; omega) (by rw [List.length_drop]; omega), alU hg f g (s.drop l.grp.length) (by rw [List.length_drop]; omega) (by rw [List.length_drop]; omega)]
def agZ (l : Loc) (s : List UInt8) : Option (List UInt8 × Bool) := acH l s.length s
def aoD (o : List UInt8) (m : Bool) (r : Option (List UInt8 × Bool)) : Option (List UInt8 × Bool) := match r with | none => none | some (d, m2) => some (o ++ d, m || m2)
theorem scan_dig {l : Loc} (hg : l.grp ≠ []) {s : List UInt8} {i : Nat} (h : i < s.length) (hd : ajQ (s.getD i 0) = true) (o : List UInt8) (m : Bool) : aoD o m (agZ l (s.drop i)) = aoD (o ++ [s.getD i 0]) m (agZ l (s.drop (i + 1))) := by
 have e := List.drop_eq_getElem_cons h
 have e2 : s.getD i 0 = s[i] := by rw [List.getD_eq_getElem?_getD, List.getElem?_eq_getElem h]; rfl
 unfold agZ
 rw [e, List.length_cons, acH, if_neg (List.cons_ne_nil _ _), List.getD_cons_zero, if_pos (by rw [← e2]; exact hd), List.drop_succ_cons, List.drop_zero, e2]
 cases acH l (s.drop (i + 1)).length (s.drop (i + 1)) with
 | none => rfl
 | some q => simp [aoD]
theorem scan_grp {l : Loc} (hg : l.grp ≠ []) {s : List UInt8} {i : Nat} (h : i < s.length) (hd : ajQ (s.getD i 0) = false) (hp : hasPrefix (s.drop i) l.grp = true) (o : List UInt8) (m : Bool) : aoD o m (agZ l (s.drop i)) = aoD o true (agZ l (s.drop (i + l.grp.length))) := by
 have e := List.drop_eq_getElem_cons h
 have e2 : s.getD i 0 = s[i] := by rw [List.getD_eq_getElem?_getD, List.getElem?_eq_getElem h]; rfl
 have hl := List.length_pos_iff.2 hg
 have e3 : acH l (s.drop i).length (s.drop i) = (match acH l (s.drop (i + 1)).length ((s.drop i).drop l.grp.length) with | none => none | some (d, _) => some (d, true)) := by
  conv => lhs; rw [e, List.length_cons, acH, ← e]
  rw [if_neg (by rw [e]; exact List.cons_ne_nil _ _), if_neg (by rw [e, List.getD_cons_zero, ← e2, hd]; decide), if_pos hp]; rfl
 unfold agZ
 rw [e3, List.drop_drop, alU hg _ (s.drop (i + l.grp.length)).length _ (by rw [List.length_drop, List.length_drop]; omega) (Nat.le_refl _)]
 cases acH l (s.drop (i + l.grp.length)).length (s.drop (i + l.grp.length)) with
 | none => rfl
 | some q => simp [aoD]
theorem scan_bad {l : Loc} {s : List UInt8} {i : Nat} (h : i < s.length) (hd : ajQ (s.getD i 0) = false) (hp : hasPrefix (s.drop i) l.grp = false) : agZ l (s.drop i) = none := by
 have e := List.drop_eq_getElem_cons h
 have e2 : s.getD i 0 = s[i] := by rw [List.getD_eq_getElem?_getD, List.getElem?_eq_getElem h]; rfl
 unfold agZ
 conv => lhs; rw [e, List.length_cons, acH, ← e]
 rw [if_neg (by rw [e]; exact List.cons_ne_nil _ _), if_neg (by rw [e, List.getD_cons_zero, ← e2, hd]; decide), if_neg (by rw [hp]; decide)]
theorem azU {s t : List UInt8} {i : Nat} (hi : i ≤ s.length) : (decide ((s.length : Int) < (i : Int) + (t.length : Int)) || decide ((s.take ((i : Int) + (t.length : Int)).toNat).drop (i : Int).toNat ≠ t)) = !hasPrefix (s.drop i) t := by
 have e1 : ((i : Int) + (t.length : Int)).toNat = i + t.length := by omega
 have e2 : ((i : Int)).toNat = i := rfl
 rw [e1, e2, ← hasPrefix_of_take, List.length_drop, List.drop_take, Nat.add_sub_cancel_left, Bool.not_and, ← decide_not]
 congr 1
 ·exact decide_eq_decide.2 (by omega)
 ·by_cases h : (s.drop i).take t.length = t <;> simp [h]

set_option maxRecDepth 100000 in
theorem atK (c : UInt8) (H : Heap) : ACall Tryz.prog 211 [.int .u8 ((c.toNat : Nat) : Int)] H (fun y H' => y = .bool (ajQ c) ∧ H' = H) := by
 refine ACall.of_body Tryz.func211 rfl Tryz.ntmps211 Tryz.results211 rfl ?_
 iterate 10 refine AX ?_
 refine zI (t := 5) rfl (fun hg5 => ?_) (fun hg5 => ?_)
 ·iterate 7 refine AX ?_
  refine Ret.go (.cons (.tmp _ _ rfl) .nil) _ (Heap.le.refl _) ?_
  refine ⟨congrArg AV.bool ?_, rfl⟩
  unfold ajQ
  rw [decide_eq_true (show 48 ≤ c.toNat by simp_all; omega)]
  exact decide_eq_decide.2 (by omega)
 ·iterate 7 refine AX ?_
  refine Ret.go (.cons (.tmp _ _ rfl) .nil) _ (Heap.le.refl _) ?_
  refine ⟨congrArg AV.bool ?_, rfl⟩
  unfold ajQ
  rw [decide_eq_false (show ¬ 48 ≤ c.toNat by simp_all; omega)]
  rfl

set_option maxRecDepth 100000 in
theorem akK (c : UInt8) (H : Heap) : ACall Tryz.prog 163 [.int .u8 ((c.toNat : Nat) : Int)] H (fun y H' => y = .bool (ajQ c) ∧ H' = H) := by
 refine ACall.of_body Tryz.func163 rfl Tryz.ntmps163 Tryz.results163 rfl ?_
 iterate 10 refine AX ?_
 refine zI (t := 5) rfl (fun hg5 => ?_) (fun hg5 => ?_)
 ·iterate 7 refine AX ?_
  refine Ret.go (.cons (.tmp _ _ rfl) .nil) _ (Heap.le.refl _) ?_
  refine ⟨congrArg AV.bool ?_, rfl⟩
  unfold ajQ
  rw [decide_eq_true (show 48 ≤ c.toNat by simp_all; omega)]
  exact decide_eq_decide.2 (by omega)
 ·iterate 7 refine AX ?_
  refine Ret.go (.cons (.tmp _ _ rfl) .nil) _ (Heap.le.refl _) ?_
  refine ⟨congrArg AV.bool ?_, rfl⟩
  unfold ajQ
  rw [decide_eq_false (show ¬ 48 ≤ c.toNat by simp_all; omega)]
  rfl

def aqV (l : Loc) (s : List UInt8) (H : Heap) : Nat → Env → Heap → Prop := fun k env H1 => ∃ (i t : Nat) (o : List UInt8) (m : Bool), i ≤ s.length ∧ aoD o m (agZ l (s.drop i)) = agZ l s ∧ o.length ≤ i ∧ env = [(1, .str s), (2, .iptr (rL l).cells), (6, .slice 1 (o.map bv) (.own t)), (7, .bool m), (8, .int .i64 (i : Int))] ∧ H.le H1 ∧ H1.toks t = true ∧ H.toks t = false ∧ k = s.length - i

set_option maxRecDepth 100000 in
theorem atO (l : Loc) (hk : l.ok) (hs2 : l.second = 2 ∨ l.second = 3) (hg : l.grp ≠ []) (s : List UInt8) (hs : s.length ≤ 4000) (H : Heap) : ACall Tryz.prog 164 [rL l, .str s] H (fun y H' => y = .tuple [.str ((adC l s).getD []), .bool (adC l s).isSome] ∧ H' = H) := by
 have hle0 := Heap.le.refl H
 obtain ⟨hk1, hk2, hk3, hk4, hk5⟩ := id hk
 have hgl := List.length_pos_iff.2 hg
 have hml := zP
 refine ACall.of_body Tryz.func164 rfl Tryz.ntmps164 Tryz.results164 rfl ?_
 iterate 2 refine AX ?_
 refine .e rfl (yF (tm rfl) (.inr ⟨_, rfl⟩)) ?_
 iterate 6 refine AX ?_
 refine .p rfl (zC (qB (sz := 1) (tl := .full))) ?_
 iterate 14 refine AX ?_
 refine AWP.tag (t := 6) rfl (fun u6 hu6 => ?_)
 have hfu6 := Heap.fresh_of hle0 hu6
 have hleu6 := Heap.le_in hle0 u6
 refine AWP.loopW (aqV l s H) (s.length) ⟨0, u6, [], false, by omega, by rw [List.drop_zero]; unfold aoD; cases agZ l s <;> simp, by simp, rfl, hleu6, Heap.toks_live_same _ _, hfu6, rfl⟩ sX (Heap.le.refl _) ?_
 rintro _ _ H1 ⟨i, t, o, m, hi, hsc, hol, rfl, hle1, hlive, hfr, rfl⟩
 iterate 9 refine AX ?_
 refine AWP.cx rfl (fun hc14 => ?_) (fun hc14 => ?_)
 ·iterate 7 refine AX ?_
  refine .p rfl (yH Tryz.underlying9 (tm rfl) (tm rfl) (by omega) (by omega)) (.cl rfl Tryz.call211 (evs1 rfl) (atK _ _) ?_)
  iterate 9 refine AX ?_
  refine AWP.cx rfl (fun hc19 => ?_) (fun hc19 => ?_)
  ·have hdg : ajQ (s.getD i 0) = true := hc19
   iterate 5 refine AX ?_
   refine .p rfl (yH Tryz.underlying9 (tm rfl) (tm rfl) (by omega) (by omega)) (.e rfl (aaL Tryz.underlying174 Tryz.sizeOf5 Tryz.zeroValue5 rfl (tm rfl) (.inl rfl) ⟨rfl, rfl⟩) ?_)
   refine .s rfl (abQ Tryz.underlying174 Tryz.underlying174 Tryz.sizeOf5 Tryz.typeInfo5 Tryz.zeroValue5 rfl (by decide) (tm rfl) (tm rfl) (by exact .own _ hlive) (by show (_ + _) * 1 ≤ _; simp only [List.length_map, List.length_cons, List.length_nil]; omega) (by repeat' (first | exact yK _ | exact aaY | exact afC ⟨rfl, rfl⟩ aaY | exact aaD (yK _) | exact aaC (yK _) | refine abK ?_ ?_ | exact row_bv _)) (by repeat' (first | exact yK _ | exact aaY | exact afC ⟨rfl, rfl⟩ aaY | exact aaD (yK _) | exact aaC (yK _) | refine abK ?_ ?_))) ?_
   rintro _ _ ⟨t25, ht25, rfl, hH⟩
   obtain rfl := hH.symm
   have hf25 := Heap.fresh_of hle1 ht25
   have hle25 := Heap.le_in (Heap.le_out (t := t) hle1 (by assumption)) t25
   iterate 6 refine AX ?_
   refine .p rfl (zK (tm rfl) zF (by omega)) ?_
   iterate 7 refine AX ?_
   refine Round.mk (J := aqV l s H) ⟨i + 1, t25, o ++ [s.getD i 0], m, by omega, by rw [← hsc]; exact (scan_dig hg (by omega) hdg o m).symm, by simp only [List.length_append, List.length_cons, List.length_nil]; omega, rfl, hle25, Heap.toks_live_same _ _, hf25, rfl⟩ (yC rfl (yC rfl (zW rfl (afB (bv_snoc _ _)) (yC rfl (zW rfl (by congr 1) yX))))) (Heap.le.refl _) (by omega)
  ·have hdg : ajQ (s.getD i 0) = false := hc19
   iterate 4 refine AX ?_
   refine .p rfl (zA Tryz.underlying27 rfl Tryz.sizeOf9 (tm rfl)) ?_
   iterate 6 refine AX ?_
   refine AWP.seqTo 47 (.bool (decide ((s.length : Int) < (i : Int) + (l.grp.length : Int)) || decide ((s.take ((i : Int) + (l.grp.length : Int)).toNat).drop (i : Int).toNat ≠ l.grp))) [1, 2, 6, 7, 8, 10] ?_ ?_
   ·-- region 10
    refine AWP.draw [(0, true), (1, true), (2, true), (3, true), (4, true), (5, true), (6, true), (7, true), (8, true), (9, true), (10, true), (11, true), (12, true), (13, true), (14, true), (15, true), (16, true)] rfl (by decide +kernel) ?_
    iterate 2 refine AX ?_
    refine .p rfl rfl (zK (tm rfl) (tm rfl) (by omega)) ?_
    iterate 4 refine AX ?_
    refine anT (t := 37) rfl (fun hg37 => ?_) (fun hg37 => ?_)
    ·have hh37 := hg37; try simp only [decide_eq_true_eq, decide_eq_false_iff_not, Bool.not_eq_true', Bool.not_eq_false', Int.not_lt, Int.not_le, ne_eq, Decidable.not_not] at hh37
     iterate 11 refine AX ?_
     exact ⟨rfl, zZ rfl (by (simp [*]; done)) sX, rfl⟩
    ·have hh37 := hg37; try simp only [decide_eq_true_eq, decide_eq_false_iff_not, Bool.not_eq_true', Bool.not_eq_false', Int.not_lt, Int.not_le, ne_eq, Decidable.not_not] at hh37
     iterate 4 refine AX ?_
     refine .gp rfl rfl rfl rfl (by assumption) (zK (tm rfl) (tm rfl) (by omega)) (.gp rfl rfl rfl rfl (by assumption) (afE Tryz.underlying9 (tm rfl) (tm rfl) (tm rfl) (by omega) (by omega) (by omega)) (.gp rfl rfl rfl rfl (by assumption) (zA Tryz.underlying27 rfl Tryz.sizeOf9 (tm rfl)) ?_))
     iterate 4 refine AX ?_
     exact ⟨rfl, zZ rfl (by (simp [*]; done)) sX, rfl⟩
   ·refine AWP.sub [(47, _), (1, _), (2, _), (6, _), (7, _), (8, _), (10, _)] sX ?_
    refine AWP.cx rfl (fun hc47 => ?_) (fun hc47 => ?_)
    ·have hpp : hasPrefix (s.drop i) l.grp = false := by
      rw [azU (by omega)] at hc47
      simpa using hc47
     iterate 12 refine AX ?_
     refine Ret.go (.cons (.tmp _ _ rfl) (.cons (.tmp _ _ rfl) .nil)) _ (hle1) ?_
     refine ⟨?_, rfl⟩
     unfold adC
     rw [show acH l s.length s = agZ l s from rfl, ← hsc]
     rw [scan_bad (by omega) hdg hpp]; rfl
    ·have hpp : hasPrefix (s.drop i) l.grp = true := by
      rw [azU (by omega)] at hc47
      simpa using hc47
     have hfit := apW hpp
     rw [List.length_drop] at hfit
     iterate 10 refine AX ?_
     refine .p rfl (zK (tm rfl) (tm rfl) (by omega)) ?_
     iterate 4 refine AX ?_
     refine Round.mk (J := aqV l s H) ⟨i + l.grp.length, t, o, true, by omega, by rw [← hsc]; exact (scan_grp hg (by omega) hdg hpp o m).symm, by omega, rfl, hle1, hlive, hfr, rfl⟩ sX (Heap.le.refl _) (by omega)
 ·iterate 6 refine AX ?_
  refine AWP.seqTo 64 (.bool (decide ((o.length : Int) = 0) || (m && decide (gR l o ≠ s)))) [6] ?_ ?_
  ·-- region 14
   iterate 2 refine AX ?_
   refine .p rfl (adX Tryz.underlying174 (tm rfl)) ?_
   iterate 2 refine AX ?_
   refine zI (t := 54) rfl (fun hg54 => ?_) (fun hg54 => ?_)
   ·have hh54 := hg54; try simp only [decide_eq_true_eq, decide_eq_false_iff_not, Bool.not_eq_true', Bool.not_eq_false', Int.not_lt, Int.not_le, ne_eq, Decidable.not_not] at hh54
    iterate 11 refine AX ?_
    exact ⟨rfl, zZ rfl (by (simp [*]; done)) (yC rfl yX), rfl⟩
   ·have hh54 := hg54; try simp only [decide_eq_true_eq, decide_eq_false_iff_not, Bool.not_eq_true', Bool.not_eq_false', Int.not_lt, Int.not_le, ne_eq, Decidable.not_not] at hh54
    iterate 2 refine AX ?_
    refine zI (t := 56) rfl (fun hg56 => ?_) (fun hg56 => ?_)
    ·have hh56 := hg56; try simp only [decide_eq_true_eq, decide_eq_false_iff_not, Bool.not_eq_true', Bool.not_eq_false', Int.not_lt, Int.not_le, ne_eq, Decidable.not_not] at hh56
     iterate 2 refine AX ?_
     refine .gs rfl rfl rfl (by assumption) (aoU Tryz.underlying174 Tryz.underlying9 Tryz.underlying5 (tm rfl)) ?_
     rintro _ _ ⟨rfl, hH⟩
     obtain rfl := hH.symm
     refine .gs rfl rfl rfl (by assumption) (zH Tryz.call79 (evs2 rfl rfl) (aoG l hk hs2 o (by omega) _)) ?_
     rintro _ _ ⟨rfl, hH⟩
     obtain rfl := hH.symm
     iterate 5 refine AX ?_
     exact ⟨rfl, zZ rfl (by simp_all) (yC rfl yX), rfl⟩
    ·have hh56 := hg56; try simp only [decide_eq_true_eq, decide_eq_false_iff_not, Bool.not_eq_true', Bool.not_eq_false', Int.not_lt, Int.not_le, ne_eq, Decidable.not_not] at hh56
     iterate 9 refine AX ?_
     exact ⟨rfl, zZ rfl (by simp_all) (yC rfl yX), rfl⟩
  ·refine AWP.sub [(64, _), (6, _)] sX ?_
   refine AWP.cx rfl (fun hc64 => ?_) (fun hc64 => ?_)
   ·iterate 8 refine AX ?_
    refine Ret.go (.cons (.tmp _ _ rfl) (.cons (.tmp _ _ rfl) .nil)) _ (hle1) ?_
    refine ⟨?_, rfl⟩
    unfold adC
    rw [show acH l s.length s = agZ l s from rfl, ← hsc]
    have hi2 : i = s.length := by omega
    rw [hi2, List.drop_length, show agZ l [] = some ([], false) from rfl]
    simp only [aoD, List.append_nil, Bool.or_false]
    rw [if_pos (by simp only [Bool.or_eq_true, Bool.and_eq_true, decide_eq_true_eq] at hc64; rcases hc64 with h | h; exact .inl (List.length_eq_zero_iff.1 (by omega)); exact .inr h)]
    rfl
   ·iterate 5 refine AX ?_
    refine .e rfl (aoU Tryz.underlying174 Tryz.underlying9 Tryz.underlying5 (tm rfl)) ?_
    iterate 5 refine AX ?_
    refine Ret.go (.cons (.tmp _ _ rfl) (.cons (.tmp _ _ rfl) .nil)) _ (hle1) ?_
    refine ⟨?_, rfl⟩
    unfold adC
    rw [show acH l s.length s = agZ l s from rfl, ← hsc]
    have hi2 : i = s.length := by omega
    rw [hi2, List.drop_length, show agZ l [] = some ([], false) from rfl]
    simp only [aoD, List.append_nil, Bool.or_false]
    rw [if_neg (by simp only [Bool.or_eq_false_iff, Bool.and_eq_false_iff, decide_eq_false_iff_not] at hc64; rintro (h | h); exact hc64.1 (by rw [h]; rfl); exact hc64.2.elim (fun q => by rw [h.1] at q; cases q) (fun q => q h.2))]
    rfl
structure WkN where
 s : List UInt8
 neg : Bool
 digits : List UInt8
 exp : Int
 out : EntN
def wkC (l : Loc) (q : WkN) : List AV := [.str l.name, .str l.dc, .str l.grp, .str l.lst, .str l.minus, .str l.pct, .str l.cur, .bool l.first, .bool l.space, .int .i64 (l.second : Int), .str q.s, .bool q.neg, .str q.digits, .int .i64 q.exp, .int .u64 (q.out.bits : Int), .int .i64 q.out.kind, .int .i64 q.out.places, .bool q.out.grouped, .bool q.out.exp]
abbrev Wk (l : Loc) (q : WkN) : AObj := .box 84 (wkC l q)
theorem begins_t {s t : List UInt8} (h : (t.length : Int) ≤ (s.length : Int)) : decide (s.take ((t.length : Nat) : Int).toNat = t) = hasPrefix s t := by
 rw [← hasPrefix_of_take, decide_eq_true (show t.length ≤ s.length by omega), Bool.true_and, Int.toNat_natCast]
 by_cases q : s.take t.length = t <;> simp [q]
theorem begins_f {s t : List UInt8} (h : ¬ (t.length : Int) ≤ (s.length : Int)) : false = hasPrefix s t := by
 rw [← hasPrefix_of_take, decide_eq_false (show ¬ t.length ≤ s.length by omega), Bool.false_and]
theorem abW {s p : List UInt8} (h : hasPrefix s p = false) : trimPrefix s p = s := by
 unfold trimPrefix; rw [if_neg (by rw [h]; decide)]
theorem aaX {s p : List UInt8} (h : hasPrefix s p = true) : trimPrefix s p = s.drop p.length := by
 unfold trimPrefix; rw [if_pos h]
def acZ (s : List UInt8) : Nat := if s = [] then 0 else if (s.getD 0 0).toNat = 32 ∨ (s.getD 0 0).toNat = 9 then 1 else if hasPrefix s [194, 160] = true then 2 else if hasPrefix s [226, 128, 175] = true then 3 else 0
theorem bdU {e : List UInt8} (he : e ∈ aoC) (r : List UInt8) : zS (e ++ r) = zS r := by
 have he1 : 1 ≤ e.length := by rcases abP he with rfl | rfl | rfl | rfl <;> simp
 have hne : e ++ r ≠ [] := by intro q; rw [(List.append_eq_nil_iff.1 q).1] at he1; simp at he1
 unfold zS
 obtain ⟨f, hf⟩ : ∃ f, (e ++ r).length = f + 1 := ⟨(e ++ r).length - 1, by rw [List.length_append]; omega⟩
 rw [hf, adR _ _ hne, if_pos (agV he r).1, (agV he r).2, List.drop_left]
 exact alM _ _ _ _ (by rw [List.length_append] at hf; omega) (Nat.le_refl _)
theorem ayP {s : List UInt8} (h : 0 < acZ s) : ∃ e ∈ aoC, ∃ r, s = e ++ r ∧ acZ s = e.length := by
 unfold acZ at h ⊢
 split at h
 ·omega
 ·rename_i h0
  rw [if_neg h0]
  cases s with
  | nil => exact absurd rfl h0
  | cons c t =>
   rw [List.getD_cons_zero] at h ⊢
   split at h
   ·rename_i h1
    rw [if_pos h1]
    rcases h1 with h1 | h1
    ·obtain rfl : c = 32 := aaI h1
     exact ⟨[32], by simp [aoC], t, rfl, rfl⟩
    ·obtain rfl : c = 9 := aaI h1
     exact ⟨[9], by simp [aoC], t, rfl, rfl⟩
   ·rename_i h1
    rw [if_neg h1]
    split at h
    ·rename_i h2
     rw [if_pos h2]
     obtain ⟨r, hr⟩ := abT.1 h2
     exact ⟨[194, 160], by simp [aoC], r, hr, rfl⟩
    ·rename_i h2
     rw [if_neg h2]
     split at h
     ·rename_i h3
      rw [if_pos h3]
      obtain ⟨r, hr⟩ := abT.1 h3
      exact ⟨[226, 128, 175], by simp [aoC], r, hr, rfl⟩
     ·omega
theorem beP {e : List UInt8} (he : e ∈ aoC) (r : List UInt8) : 0 < acZ (e ++ r) := by
 unfold acZ
 rcases abP he with rfl | rfl | rfl | rfl
 ·simp
 ·simp
 ·rw [if_neg (by simp), if_neg (by simp), if_pos (abL _ _)]; decide
 ·rw [if_neg (by simp), if_neg (by simp), if_neg (by rw [List.cons_append, zX (by simp)]; decide), if_pos (abL _ _)]; decide
theorem ayO {s : List UInt8} (h : 0 < acZ s) : zS (s.drop (acZ s)) = zS s ∧ acZ s ≤ s.length := by
 obtain ⟨e, he, r, rfl, h2⟩ := ayP h
 rw [h2, List.drop_left, bdU he, List.length_append]
 exact ⟨rfl, by omega⟩
theorem ayN {s : List UInt8} (h : ¬ 0 < acZ s) : zS s = s := by
 refine anD ?_
 by_cases h0 : s = []
 ·exact .inl h0
 ·refine .inr ?_
  rw [Bool.eq_false_iff]
  intro q
  obtain ⟨e, he, r, rfl⟩ := bjA q
  exact h (beP he r)
theorem adM (s : List UInt8) : (zS s).length ≤ s.length := abN _ _ _
theorem aeF (s : List UInt8) : (aaB s).length ≤ s.length ∧ (aaW s).length ≤ s.length := by
 have := congrArg List.length (aaZ s)
 rw [List.length_append] at this
 exact ⟨by omega, by omega⟩
theorem row_step {s : List UInt8} {i : Nat} (h : i < s.length) (hd : ajQ (s.getD i 0) = true) : s.take i ++ aaW (s.drop i) = s.take (i + 1) ++ aaW (s.drop (i + 1)) ∧ aaB (s.drop i) = aaB (s.drop (i + 1)) := by
 have e2 : s.getD i 0 = s[i] := by rw [List.getD_eq_getElem?_getD, List.getElem?_eq_getElem h]; rfl
 rw [e2] at hd
 rw [List.drop_eq_getElem_cons h]
 unfold aaW aaB
 rw [List.takeWhile_cons, List.dropWhile_cons, hd, if_pos rfl, if_pos rfl, ← List.take_append_getElem h, List.append_assoc]
 exact ⟨rfl, rfl⟩
theorem row_stop {s : List UInt8} {i : Nat} (h : ¬ (i < s.length ∧ ajQ (s.getD i 0) = true)) : aaW (s.drop i) = [] ∧ aaB (s.drop i) = s.drop i := by
 by_cases h0 : i < s.length
 ·have e2 : s.getD i 0 = s[i] := by rw [List.getD_eq_getElem?_getD, List.getElem?_eq_getElem h0]; rfl
  have hd : ajQ s[i] = false := by rw [← e2, Bool.eq_false_iff]; exact fun q => h ⟨h0, q⟩
  rw [List.drop_eq_getElem_cons h0]
  unfold aaW aaB
  rw [List.takeWhile_cons, List.dropWhile_cons, hd]
  exact ⟨rfl, rfl⟩
 ·rw [List.drop_of_length_le (by omega)]; exact ⟨rfl, rfl⟩

set_option maxRecDepth 100000 in
theorem aeL (s t : List UInt8) (H : Heap) : ACall Tryz.prog 73 [.str s, .str t] H (fun y H' => y = .bool (hasPrefix s t) ∧ H' = H) := by
 refine ACall.of_body Tryz.func73 rfl Tryz.ntmps73 Tryz.results73 rfl ?_
 iterate 13 refine AX ?_
 refine zI (t := 10) rfl (fun hg10 => ?_) (fun hg10 => ?_)
 ·have hh10 := hg10; try simp only [decide_eq_true_eq, decide_eq_false_iff_not, Bool.not_eq_true', Bool.not_eq_false', Int.not_lt, Int.not_le, ne_eq, Decidable.not_not] at hh10
  iterate 3 refine AX ?_
  refine .gp rfl rfl rfl (by assumption) (qP Tryz.underlying9 (tm rfl) (tm rfl) (by omega) (by omega)) ?_
  iterate 7 refine AX ?_
  refine Ret.go (.cons (.tmp _ _ rfl) .nil) _ (Heap.le.refl _) ?_
  refine ⟨congrArg AV.bool ?_, rfl⟩
  exact begins_t (of_decide_eq_true (by assumption))
 ·have hh10 := hg10; try simp only [decide_eq_true_eq, decide_eq_false_iff_not, Bool.not_eq_true', Bool.not_eq_false', Int.not_lt, Int.not_le, ne_eq, Decidable.not_not] at hh10
  iterate 11 refine AX ?_
  refine Ret.go (.cons (.tmp _ _ rfl) .nil) _ (Heap.le.refl _) ?_
  refine ⟨congrArg AV.bool ?_, rfl⟩
  exact begins_f (of_decide_eq_false (by assumption))

set_option maxRecDepth 100000 in
theorem afX (s : List UInt8) (H : Heap) : ACall Tryz.prog 72 [.str s] H (fun y H' => y = .int .i64 (acZ s : Int) ∧ H' = H) := by
 refine ACall.of_body Tryz.func72 rfl Tryz.ntmps72 Tryz.results72 rfl ?_
 iterate 14 refine AX ?_
 refine AWP.cx rfl (fun hc3 => ?_) (fun hc3 => ?_)
 ·iterate 8 refine AX ?_
  refine Ret.go (.cons (.tmp _ _ rfl) .nil) _ (Heap.le.refl _) ?_
  refine ⟨congrArg (AV.int .i64) ?_, rfl⟩
  unfold acZ
  rw [if_pos hc3]; rfl
 ·refine AWP.seqTo 6 (.bool (decide (((s.getD 0 0).toNat : Int) = 32) || decide (((s.getD 0 0).toNat : Int) = 9))) [0, 2] ?_ ?_
  ·-- region 3
   iterate 2 refine AX ?_
   refine .p rfl (yH Tryz.underlying9 (tm rfl) zF (by have := List.length_pos_iff.2 hc3; omega) (by have := List.length_pos_iff.2 hc3; omega)) ?_
   iterate 2 refine AX ?_
   refine zI (t := 10) rfl (fun hg10 => ?_) (fun hg10 => ?_)
   ·iterate 6 refine AX ?_
    exact ⟨rfl, zZ rfl (by simp_all) sX, rfl⟩
   ·refine AX ?_
    refine .gp rfl rfl rfl (by assumption) (yH Tryz.underlying9 (tm rfl) zF (by have := List.length_pos_iff.2 hc3; omega) (by have := List.length_pos_iff.2 hc3; omega)) ?_
    iterate 4 refine AX ?_
    exact ⟨rfl, zZ rfl (by simp_all) sX, rfl⟩
  ·refine AWP.sub [(6, _), (0, _), (2, _)] sX ?_
   refine AWP.cx rfl (fun hc6 => ?_) (fun hc6 => ?_)
   ·have hb : (s.getD 0 0).toNat = 32 ∨ (s.getD 0 0).toNat = 9 := by simp only [Bool.or_eq_true, decide_eq_true_eq] at hc6; omega
    iterate 8 refine AX ?_
    refine Ret.go (.cons (.tmp _ _ rfl) .nil) _ (Heap.le.refl _) ?_
    refine ⟨congrArg (AV.int .i64) ?_, rfl⟩
    unfold acZ
    rw [if_neg hc3, if_pos hb]; rfl
   ·have hb : ¬ ((s.getD 0 0).toNat = 32 ∨ (s.getD 0 0).toNat = 9) := by simp only [Bool.or_eq_false_iff, decide_eq_false_iff_not] at hc6; omega
    iterate 3 refine AX ?_
    refine .cl rfl Tryz.call73 (.cons (tm rfl) (.cons (zR rfl) .nil)) (aeL _ _ _) ?_
    iterate 3 refine AX ?_
    refine AWP.cx rfl (fun hc15 => ?_) (fun hc15 => ?_)
    ·iterate 8 refine AX ?_
     refine Ret.go (.cons (.tmp _ _ rfl) .nil) _ (Heap.le.refl _) ?_
     refine ⟨congrArg (AV.int .i64) ?_, rfl⟩
     unfold acZ
     rw [if_neg hc3, if_neg hb, if_pos hc15]; rfl
    ·iterate 3 refine AX ?_
     refine .cl rfl Tryz.call73 (.cons (tm rfl) (.cons (zR rfl) .nil)) (aeL _ _ _) ?_
     iterate 3 refine AX ?_
     refine AWP.cx rfl (fun hc18 => ?_) (fun hc18 => ?_)
     ·iterate 8 refine AX ?_
      refine Ret.go (.cons (.tmp _ _ rfl) .nil) _ (Heap.le.refl _) ?_
      refine ⟨congrArg (AV.int .i64) ?_, rfl⟩
      unfold acZ
      rw [if_neg hc3, if_neg hb, if_neg (by rw [hc15]; decide), if_pos hc18]; rfl
     ·iterate 9 refine AX ?_
      refine Ret.go (.cons (.tmp _ _ rfl) .nil) _ (Heap.le.refl _) ?_
      refine ⟨congrArg (AV.int .i64) ?_, rfl⟩
      unfold acZ
      rw [if_neg hc3, if_neg hb, if_neg (by rw [hc15]; decide), if_neg (by rw [hc18]; decide)]; rfl

set_option maxRecDepth 100000 in
theorem agG (l : Loc) (q : WkN) (hq : q.s.length ≤ 2000) (b : Nat) (H : Heap) (hb : H.objs b = some (Wk l q)) (t : List UInt8) : ACall Tryz.prog 38 [.ptr (some ⟨b, 0, none⟩), .str t] H (fun y H' => y = .bool (hasPrefix q.s t) ∧ H' = H.set b (Wk l { q with s := trimPrefix q.s t })) := by
 refine ACall.of_body Tryz.func38 rfl Tryz.ntmps38 Tryz.results38 rfl ?_
 iterate 9 refine AX ?_
 refine .p rfl (zD Tryz.underlying84 rfl Tryz.sizeOf9 (tm rfl)) (.e rfl (zN Tryz.isAgg9 (tm rfl) (hb) rfl) ?_)
 refine AX ?_
 refine .cl rfl Tryz.call73 (evs2 rfl rfl) (aeL _ _ _) ?_
 iterate 9 refine AX ?_
 refine AWP.cx rfl (fun hc12 => ?_) (fun hc12 => ?_)
 ·have hle := apW hc12
  iterate 4 refine AX ?_
  refine .p rfl (zD Tryz.underlying84 rfl Tryz.sizeOf9 (tm rfl)) (.e rfl (zN Tryz.isAgg9 (tm rfl) (hb) rfl) ?_)
  iterate 2 refine AX ?_
  refine .p rfl (yY Tryz.underlying9 (tm rfl) (tm rfl) (by omega) (by omega)) ?_
  refine AX ?_
  refine .p rfl (zD Tryz.underlying84 rfl Tryz.sizeOf9 (tm rfl)) (.e0 (zB Tryz.sizeOf9 (tm rfl) (tm rfl) rfl rfl (.inl rfl) (hb) (Nat.le_of_ble_eq_true rfl)) ?_)
  try first | rw [Heap.set_set] | rw [Heap.set_under (by assumption)]
  iterate 9 refine AX ?_
  refine Ret.go (.cons (.tmp _ _ rfl) .nil) _ (Heap.le.refl _) ?_
  exact ⟨rfl, by rw [aaX (by assumption)]; rfl⟩
 ·iterate 9 refine AX ?_
  refine Ret.go (.cons (.tmp _ _ rfl) .nil) _ (Heap.le.refl _) ?_
  exact ⟨rfl, by rw [abW (by assumption)]; exact (Heap.set_self hb).symm⟩

def amJ (l : Loc) (q : WkN) (b : Nat) (H : Heap) : Nat → Env → Heap → Prop := fun k env H1 => ∃ s1 : List UInt8, zS s1 = zS q.s ∧ s1.length ≤ q.s.length ∧ env = [(0, .ptr (some ⟨b, 0, none⟩))] ∧ H1 = H.set b (Wk l { q with s := s1 }) ∧ k = s1.length

set_option maxRecDepth 100000 in
theorem avG (l : Loc) (q : WkN) (hq : q.s.length ≤ 2000) (b : Nat) (H : Heap) (hb : H.objs b = some (Wk l q)) : ACall Tryz.prog 37 [.ptr (some ⟨b, 0, none⟩)] H (fun y H' => H' = H.set b (Wk l { q with s := zS q.s })) := by
 refine ACall.of_body Tryz.func37 rfl Tryz.ntmps37 Tryz.results37 rfl ?_
 refine AX ?_
 refine AWP.loopW (amJ l q b H) (q.s.length) ⟨q.s, rfl, Nat.le_refl _, rfl, rfl, rfl⟩ (yC rfl yX) (by rw [Heap.set_self hb]; exact Heap.le.refl _) ?_
 rintro _ _ _ ⟨s1, hs1, hl1, rfl, rfl, rfl⟩
 iterate 5 refine AX ?_
 refine .p rfl (zD Tryz.underlying84 rfl Tryz.sizeOf9 (tm rfl)) (.e rfl (zN Tryz.isAgg9 (tm rfl) (Heap.objs_set_same _ _ _) rfl) (.cl rfl Tryz.call72 (evs1 rfl) (afX _ _) ?_))
 iterate 3 refine AX ?_
 refine AWP.cx rfl (fun hc7 => ?_) (fun hc7 => ?_)
 ·have hst := ayO (s := s1) (by omega)
  iterate 3 refine AX ?_
  refine AWP.drawT (.op 0 true (.op 1 true (.op 2 true (.op 3 true (.op 5 true (.op 6 true (.op 7 true (.two 4 (.op 8 false (.op 9 true (.op 10 true (.op 11 true (.op 12 true (.op 13 false .done)))))) 8 (.op 9 true (.op 4 false (.op 10 true (.op 11 true (.op 12 true (.op 13 false .done)))))))))))))) rfl (by decide +kernel) ?_
  refine ATree.p rfl rfl (qH (tm rfl)) ?_
  refine ATree.p rfl rfl (qH (tm rfl)) ?_
  refine ATree.p rfl rfl (qO (tm rfl)) ?_
  refine ATree.p rfl rfl (zD Tryz.underlying84 rfl Tryz.sizeOf9 (tm rfl)) ?_
  refine ATree.p rfl rfl (qH (tm rfl)) ?_
  refine ATree.p rfl rfl (qO (tm rfl)) ?_
  refine ATree.p rfl rfl (zD Tryz.underlying84 rfl Tryz.sizeOf9 (tm rfl)) ?_
  refine ⟨?_, ?_⟩
  ·refine XTree.s rfl rfl (zN Tryz.isAgg9 (tm rfl) (Heap.objs_set_same _ _ _) rfl) ?_
   rintro _ _ ⟨rfl, hH⟩
   obtain rfl := hH.symm
   refine ATree.s rfl rfl (zN Tryz.isAgg9 (tm rfl) (Heap.objs_set_same _ _ _) rfl) ?_
   rintro _ _ ⟨rfl, hH⟩
   obtain rfl := hH.symm
   refine ATree.f rfl rfl (fun _ => zH Tryz.call72 (evs1 rfl) (afX _ _)) ?_
   refine ATree.p rfl rfl (yY Tryz.underlying9 (tm rfl) (tm rfl) (by (try dsimp only); omega) (by (try dsimp only); omega)) ?_
   refine ATree.p rfl rfl (qO (tm rfl)) ?_
   refine ATree.p rfl rfl (zD Tryz.underlying84 rfl Tryz.sizeOf9 (tm rfl)) ?_
   refine ATree.s0 rfl (zB Tryz.sizeOf9 (tm rfl) (tm rfl) rfl rfl (.inl rfl) (Heap.objs_set_same _ _ _) (Nat.le_of_ble_eq_true rfl)) ?_
   rintro _ _ ⟨rfl, hH⟩
   obtain rfl := hH.symm
   try first | rw [Heap.set_set] | rw [Heap.set_under (by assumption)]
   refine ATree.nil ?_
   iterate 2 refine AX ?_
   refine Round.mk (J := amJ l q b H) ⟨s1.drop (acZ s1), by rw [hst.1]; exact hs1, by rw [List.length_drop]; omega, rfl, rfl, rfl⟩ (yC rfl yX) (Heap.le.refl _) (by rw [List.length_drop]; omega)
  ·refine XTree.s rfl rfl (zN Tryz.isAgg9 (tm rfl) (Heap.objs_set_same _ _ _) rfl) ?_
   rintro _ _ ⟨rfl, hH⟩
   obtain rfl := hH.symm
   refine ATree.f rfl rfl (fun _ => zH Tryz.call72 (evs1 rfl) (afX _ _)) ?_
   refine ATree.s rfl rfl (zN Tryz.isAgg9 (tm rfl) (Heap.objs_set_same _ _ _) rfl) ?_
   rintro _ _ ⟨rfl, hH⟩
   obtain rfl := hH.symm
   refine ATree.p rfl rfl (yY Tryz.underlying9 (tm rfl) (tm rfl) (by (try dsimp only); omega) (by (try dsimp only); omega)) ?_
   refine ATree.p rfl rfl (qO (tm rfl)) ?_
   refine ATree.p rfl rfl (zD Tryz.underlying84 rfl Tryz.sizeOf9 (tm rfl)) ?_
   refine ATree.s0 rfl (zB Tryz.sizeOf9 (tm rfl) (tm rfl) rfl rfl (.inl rfl) (Heap.objs_set_same _ _ _) (Nat.le_of_ble_eq_true rfl)) ?_
   rintro _ _ ⟨rfl, hH⟩
   obtain rfl := hH.symm
   try first | rw [Heap.set_set] | rw [Heap.set_under (by assumption)]
   refine ATree.nil ?_
   iterate 2 refine AX ?_
   refine Round.mk (J := amJ l q b H) ⟨s1.drop (acZ s1), by rw [hst.1]; exact hs1, by rw [List.length_drop]; omega, rfl, rfl, rfl⟩ (yC rfl yX) (Heap.le.refl _) (by rw [List.length_drop]; omega)
 ·have hsp := ayN (s := s1) (by omega)
  iterate 4 refine AX ?_
  refine Ret.go' .nil _ (Heap.le.refl _) ?_
  rw [← hs1, hsp]

def rrow_J (l : Loc) (q : WkN) (b : Nat) (H : Heap) : Nat → Env → Heap → Prop := fun k env H1 => ∃ i : Nat, i ≤ q.s.length ∧ aaW q.s = q.s.take i ++ aaW (q.s.drop i) ∧ aaB q.s = aaB (q.s.drop i) ∧ env = [(0, .ptr (some ⟨b, 0, none⟩)), (3, .int .i64 (i : Int))] ∧ H = H1 ∧ k = q.s.length - i

set_option maxRecDepth 100000 in
theorem bgJ (l : Loc) (q : WkN) (hq : q.s.length ≤ 2000) (b : Nat) (H : Heap) (hb : H.objs b = some (Wk l q)) : ACall Tryz.prog 119 [.ptr (some ⟨b, 0, none⟩)] H (fun y H' => y = .str (aaW q.s) ∧ H' = H.set b (Wk l { q with s := aaB q.s })) := by
 refine ACall.of_body Tryz.func119 rfl Tryz.ntmps119 Tryz.results119 rfl ?_
 iterate 12 refine AX ?_
 refine AWP.loopW (rrow_J l q b H) (q.s.length) ⟨0, by omega, rfl, rfl, rfl, rfl, by omega⟩ sX (Heap.le.refl _) ?_
 rintro _ _ _ ⟨i, hi, hr1, hr2, rfl, rfl, rfl⟩
 refine AX ?_
 refine AWP.seqTo 20 (.bool (decide ((i : Int) < (q.s.length : Int)) && ajQ (q.s.getD i 0))) [0, 3] ?_ ?_
 ·-- region 2
  iterate 4 refine AX ?_
  refine .p rfl (zD Tryz.underlying84 rfl Tryz.sizeOf9 (tm rfl)) (.e rfl (zN Tryz.isAgg9 (tm rfl) (hb) rfl) ?_)
  iterate 3 refine AX ?_
  refine zI (t := 12) rfl (fun hg12 => ?_) (fun hg12 => ?_)
  ·have hh12 := hg12; try simp only [decide_eq_true_eq, decide_eq_false_iff_not, Bool.not_eq_true', Bool.not_eq_false', Int.not_lt, Int.not_le, ne_eq, Decidable.not_not] at hh12
   iterate 2 refine AX ?_
   refine .gp rfl rfl rfl (by assumption) (zD Tryz.underlying84 rfl Tryz.sizeOf9 (tm rfl)) (.gs rfl rfl rfl (by assumption) (zN Tryz.isAgg9 (tm rfl) (hb) rfl) ?_)
   rintro _ _ ⟨rfl, hH⟩
   obtain rfl := hH.symm
   refine AX ?_
   refine .gp rfl rfl rfl (by assumption) (yH Tryz.underlying9 (tm rfl) (tm rfl) (by omega) (by omega)) (.gs rfl rfl rfl (by assumption) (zH Tryz.call163 (evs1 rfl) (akK _ _)) ?_)
   rintro _ _ ⟨rfl, hH⟩
   obtain rfl := hH.symm
   iterate 2 refine AX ?_
   exact ⟨rfl, zZ rfl (by (rw [show decide ((i : Int) < (q.s.length : Int)) = _ from hg12]; rfl)) sX, rfl⟩
  ·have hh12 := hg12; try simp only [decide_eq_true_eq, decide_eq_false_iff_not, Bool.not_eq_true', Bool.not_eq_false', Int.not_lt, Int.not_le, ne_eq, Decidable.not_not] at hh12
   iterate 9 refine AX ?_
   exact ⟨rfl, zZ rfl (by (rw [show decide ((i : Int) < (q.s.length : Int)) = _ from hg12]; rfl)) sX, rfl⟩
 ·refine AWP.sub [(20, _), (0, _), (3, _)] sX ?_
  refine AWP.cx rfl (fun hc20 => ?_) (fun hc20 => ?_)
  ·have hc2 : i < q.s.length ∧ ajQ (q.s.getD i 0) = true := by simp only [Bool.and_eq_true, decide_eq_true_eq] at hc20; exact ⟨by omega, hc20.2⟩
   have hst := row_step hc2.1 hc2.2
   iterate 5 refine AX ?_
   refine .p rfl (zK (tm rfl) zF (by omega)) ?_
   iterate 4 refine AX ?_
   refine Round.mk (J := rrow_J l q b H) ⟨i + 1, by omega, by rw [← hst.1]; exact hr1, by rw [← hst.2]; exact hr2, rfl, rfl, rfl⟩ (yC rfl (zW rfl (by congr 1) yX)) (Heap.le.refl _) (by omega)
  ·have hsp := row_stop (s := q.s) (i := i) (by rintro ⟨h1, h2⟩; rw [h2, Bool.and_true] at hc20; exact absurd h1 (by have := of_decide_eq_false hc20; omega))
   rw [hsp.1, List.append_nil] at hr1
   rw [hsp.2] at hr2
   iterate 9 refine AX ?_
   refine .p rfl (zD Tryz.underlying84 rfl Tryz.sizeOf9 (tm rfl)) (.e rfl (zN Tryz.isAgg9 (tm rfl) (hb) rfl) ?_)
   refine AX ?_
   refine .p rfl (qP Tryz.underlying9 (tm rfl) (tm rfl) (by omega) (by omega)) ?_
   iterate 8 refine AX ?_
   refine .p rfl (zD Tryz.underlying84 rfl Tryz.sizeOf9 (tm rfl)) (.e rfl (zN Tryz.isAgg9 (tm rfl) (hb) rfl) ?_)
   refine AX ?_
   refine .p rfl (yY Tryz.underlying9 (tm rfl) (tm rfl) (by omega) (by omega)) ?_
   refine AX ?_
   refine .p rfl (zD Tryz.underlying84 rfl Tryz.sizeOf9 (tm rfl)) (.e0 (zB Tryz.sizeOf9 (tm rfl) (tm rfl) rfl rfl (.inl rfl) (hb) (Nat.le_of_ble_eq_true rfl)) ?_)
   try first | rw [Heap.set_set] | rw [Heap.set_under (by assumption)]
   iterate 9 refine AX ?_
   refine Ret.go (.cons (.tmp _ _ rfl) .nil) _ (Heap.le.refl _) ?_
   exact ⟨by rw [hr1]; rfl, by rw [hr2]; rfl⟩

set_option maxRecDepth 100000 in
theorem awQ (l : Loc) (q : WkN) (hq : q.s.length ≤ 2000) (b : Nat) (H : Heap) (hb : H.objs b = some (Wk l q)) : ACall Tryz.prog 39 [.ptr (some ⟨b, 0, none⟩)] H (fun y H' => (∃ g, y = .tuple [.bool g, .bool (yA l q.s).2]) ∧ H' = H.set b (Wk l { q with s := (yA l q.s).1 })) := by
 have hset : ∀ p, hasPrefix q.s p = false → H.set b (Wk l { q with s := trimPrefix q.s p }) = H := fun p h => by rw [abW h]; exact Heap.set_self hb
 refine ACall.of_body Tryz.func39 rfl Tryz.ntmps39 Tryz.results39 rfl ?_
 iterate 9 refine AX ?_
 refine .e rfl (zH Tryz.call38 (.cons (tm rfl) (.cons (zR rfl) .nil)) (agG l q hq b _ hb _)) ?_
 iterate 9 refine AX ?_
 refine AWP.cx rfl (fun hc8 => ?_) (fun hc8 => ?_)
 ·have hsg : yA l q.s = (trimPrefix q.s [43], false) := by unfold yA; rw [if_pos hc8]
  iterate 8 refine AX ?_
  refine Ret.go (.cons (.tmp _ _ rfl) (.cons (.tmp _ _ rfl) .nil)) _ (Heap.le.refl _) ?_
  rw [hsg]; exact ⟨⟨_, rfl⟩, rfl⟩
 ·rw [hset _ hc8]
  iterate 5 refine AX ?_
  refine .e rfl (zH Tryz.call38 (.cons (tm rfl) (.cons (zR rfl) .nil)) (agG l q hq b _ hb _)) ?_
  iterate 10 refine AX ?_
  refine AWP.cx rfl (fun hc12 => ?_) (fun hc12 => ?_)
  ·have hc45 : hasPrefix q.s [45] = false := by simpa using hc12
   rw [hset _ hc45]
   have hsg : yA l q.s = (trimPrefix q.s l.minus, hasPrefix q.s l.minus) := by unfold yA; rw [if_neg (by rw [hc8]; decide), if_neg (by rw [hc45]; decide)]; cases hm : hasPrefix q.s l.minus with | true => rfl | false => simp only [Bool.false_eq_true, if_false]; rw [abW hm]
   iterate 4 refine AX ?_
   refine .p rfl (zD Tryz.underlying84 rfl Tryz.sizeOf27 (tm rfl)) (.p rfl (zD Tryz.underlying27 rfl Tryz.sizeOf9 (tm rfl)) (.e rfl (zN Tryz.isAgg9 (tm rfl) (hb) rfl) (.e rfl (zH Tryz.call38 (evs2 rfl rfl) (agG l q hq b _ hb _)) ?_)))
   iterate 12 refine AX ?_
   refine Ret.go (.cons (.tmp _ _ rfl) (.cons (.tmp _ _ rfl) .nil)) _ (Heap.le.refl _) ?_
   rw [hsg]; exact ⟨⟨_, rfl⟩, rfl⟩
  ·have hc45 : hasPrefix q.s [45] = true := by simpa using hc12
   have hsg : yA l q.s = (trimPrefix q.s [45], true) := by unfold yA; rw [if_neg (by rw [hc8]; decide), if_pos hc45]
   rw [hc45]
   iterate 11 refine AX ?_
   refine Ret.go (.cons (.tmp _ _ rfl) (.cons (.tmp _ _ rfl) .nil)) _ (Heap.le.refl _) ?_
   rw [hsg]; exact ⟨⟨_, rfl⟩, rfl⟩

/-! ### the same, the reader's parts said one by one -/
theorem takeW (l : Loc) (s : List UInt8) (neg : Bool) (d : List UInt8) (e : Int) (o : EntN) (hs : s.length ≤ 2000) (b : Nat) (H : Heap) (hb : H.objs b = some (Wk l ⟨s, neg, d, e, o⟩)) (t : List UInt8) : ACall Tryz.prog 38 [.ptr (some ⟨b, 0, none⟩), .str t] H (fun y H' => y = .bool (hasPrefix s t) ∧ H' = H.set b (Wk l ⟨trimPrefix s t, neg, d, e, o⟩)) := agG l ⟨s, neg, d, e, o⟩ hs b H hb t
theorem blanksW (l : Loc) (s : List UInt8) (neg : Bool) (d : List UInt8) (e : Int) (o : EntN) (hs : s.length ≤ 2000) (b : Nat) (H : Heap) (hb : H.objs b = some (Wk l ⟨s, neg, d, e, o⟩)) : ACall Tryz.prog 37 [.ptr (some ⟨b, 0, none⟩)] H (fun _ H' => H' = H.set b (Wk l ⟨zS s, neg, d, e, o⟩)) := avG l ⟨s, neg, d, e, o⟩ hs b H hb
theorem rowW (l : Loc) (s : List UInt8) (neg : Bool) (d : List UInt8) (e : Int) (o : EntN) (hs : s.length ≤ 2000) (b : Nat) (H : Heap) (hb : H.objs b = some (Wk l ⟨s, neg, d, e, o⟩)) : ACall Tryz.prog 119 [.ptr (some ⟨b, 0, none⟩)] H (fun y H' => y = .str (aaW s) ∧ H' = H.set b (Wk l ⟨aaB s, neg, d, e, o⟩)) := bgJ l ⟨s, neg, d, e, o⟩ hs b H hb
theorem rsignW (l : Loc) (s : List UInt8) (neg : Bool) (d : List UInt8) (e : Int) (o : EntN) (hs : s.length ≤ 2000) (b : Nat) (H : Heap) (hb : H.objs b = some (Wk l ⟨s, neg, d, e, o⟩)) : ACall Tryz.prog 39 [.ptr (some ⟨b, 0, none⟩)] H (fun y H' => (∃ g, y = .tuple [.bool g, .bool (yA l s).2]) ∧ H' = H.set b (Wk l ⟨(yA l s).1, neg, d, e, o⟩)) := awQ l ⟨s, neg, d, e, o⟩ hs b H hb
end Go.Proofs.YtfkeflcdadlmdaaGreatDoor
