import Derived.Test.YtmmgbnolccpjoaaGreatDoorYd
import Derived.Test.YtmmgbnolccpjoaaGreatDoorSsk
import Derived.Test.YtmmgbnolccpjoaaGreatDoorX1
import Derived.Test.YtmmgbnolccpjoaaGreatDoorR1
namespace Go.Proofs.YtmmgbnolccpjoaaGreatDoor
open Go Go.RowKit

theorem zr58 : ∀ g, RelCells g [.bool false, .str [], .int .i64 0] (Value.cells (Go.Value.agg #[Go.Value.bool false, Go.Value.string { data := #[] }, Go.Value.int Go.IntKind.i64 0])) := fun g => RelL.cells (.cons (.bool _) (.cons ((.str [] (Nat.zero_le _))) (.cons (.int _ _) .nil)))
theorem pl58 (fs : Array Field) (hfs : Tryz.prog.underlying 58 = some (.struct fs)) : ∀ (i : Nat) f p, fs[i]? = some f → [(0, 1), (1, 1), (2, 1)][i]? = some p → ∀ w, (sizeOf f.type).run Tryz.prog w = .ok p.2 w := by
 have e := (Option.some.inj (hfs.symm.trans Tryz.underlying58))
 cases e
 intro i f p hf hp w
 match i with
 | 0 => cases hf; cases hp; exact Tryz.sizeOf4 w
 | 1 => cases hf; cases hp; exact Tryz.sizeOf9 w
 | 2 => cases hf; cases hp; exact Tryz.sizeOf3 w
 | i + 3 => simp at hp

theorem bgP {s : List UInt8} {p : Nat} (h : p < s.length) (ha : (s.getD p 0).toNat < 128) : Utf8.decode ⟨s.toArray⟩ p = ((s.getD p 0).toNat, 1) := by
 have hb : (⟨s.toArray⟩ : ByteArray).get! (p + 0) = s.getD p 0 := by
  rw [Nat.add_zero, List.getD_eq_getElem?_getD, List.getElem?_eq_getElem h]
  show s.toArray[p]! = _
  simp [h]
 unfold Utf8.decode
 simp only [hb]
 rw [if_pos ha]
theorem Digs.at {s : List UInt8} (hd : Digs s) {p : Nat} (h : p < s.length) : 48 ≤ (s.getD p 0).toNat ∧ (s.getD p 0).toNat ≤ 57 := by
 rw [List.getD_eq_getElem?_getD, List.getElem?_eq_getElem h]
 exact hd _ (List.getElem_mem h)
theorem bdC {ds : List UInt8} (h : 0 < ds.length) : Lib.hasSuffix ds [48] = decide (ds.getD (ds.length - 1) 0 = 48) := by
 unfold Lib.hasSuffix
 have e : ds = ds.take (ds.length - 1) ++ [ds.getD (ds.length - 1) 0] := by
  have hl : ds.length - 1 < ds.length := by omega
  rw [List.getD_eq_getElem?_getD, List.getElem?_eq_getElem hl, Option.getD_some, List.take_append_getElem hl, List.take_of_length_le (by omega)]
 by_cases hq : ds.getD (ds.length - 1) 0 = 48
 ·rw [decide_eq_true hq]
  rw [hq] at e
  rw [List.isSuffixOf_iff_suffix]
  exact ⟨_, e.symm⟩
 ·rw [decide_eq_false hq]
  cases hs : [48].isSuffixOf ds with
  | false => rfl
  | true =>
   rw [List.isSuffixOf_iff_suffix] at hs
   obtain ⟨u, hu⟩ := hs
   exfalso; apply hq
   rw [← hu]; simp
theorem awD {b : UInt8} (k : Nat) (hk : k < 256) : decide (((b.toNat : Nat) : Int) = (k : Int)) = decide (b = UInt8.ofNat k) := by
 apply decide_eq_decide.2
 constructor
 ·intro h; apply UInt8.toNat_inj.1; rw [UInt8.toNat_ofNat']; omega
 ·intro h; rw [h, UInt8.toNat_ofNat']; omega
def bdW (ds : List UInt8) (e : Int) : Bool := decide ((ds.length : Int) ≤ 1100) && decide (-100000 ≤ e) && decide (e ≤ 100000) && decide (((ds.getD 0 0).toNat : Int) ≠ 48) && !decide (((ds.getD (ds.length - 1) 0).toNat : Int) = 48)
theorem arK {ds : List UInt8} {e : Int} (h : ds ≠ []) : qJ ds e = (bdW ds e && bgO ds) := by
 unfold qJ bdW
 rw [if_neg h]
 have e1 := awD (b := ds.getD 0 0) 48 (by decide)
 have e2 := awD (b := ds.getD (ds.length - 1) 0) 48 (by decide)
 have e3 : decide ((ds.length : Int) ≤ 1100) = decide (ds.length ≤ 1100) := decide_eq_decide.2 (by omega)
 have e4 : decide (((ds.getD 0 0).toNat : Int) ≠ 48) = !decide (ds.getD 0 0 = UInt8.ofNat 48) := by rw [← e1]; exact decide_not
 rw [e3, e4, show decide (((ds.getD (ds.length - 1) 0).toNat : Int) = 48) = decide (ds.getD (ds.length - 1) 0 = UInt8.ofNat 48) from e2]
 show _ = (_ && _ && _ && !decide (ds.getD 0 0 = 48) && !decide (ds.getD (ds.length - 1) 0 = 48) && bgO ds)
 generalize decide (ds.length ≤ 1100) = a1
 generalize decide (-100000 ≤ e) = a2
 generalize decide (e ≤ 100000) = a3
 generalize bgO ds = a4
 generalize decide (ds.getD 0 0 = 48) = a5
 generalize decide (ds.getD (ds.length - 1) 0 = 48) = a6
 cases a1 <;> cases a2 <;> cases a3 <;> cases a4 <;> cases a5 <;> cases a6 <;> rfl

def beG (s : List UInt8) (b : Nat) (H : Heap) : Nat → Env → Heap → Prop := fun k env H1 => ∃ p : Nat, p ≤ s.length ∧ env = [(6, .ptr (some ⟨b, 0, none⟩))] ∧ H1 = H.set b (.raw (.stringIter ⟨s.toArray⟩ p)) ∧ k = s.length - p

set_option maxRecDepth 100000 in
theorem alH (s : List UInt8) (hd : Digs s) (H : Heap) : ACall Tryz.prog 162 [.str s] H (fun y H' => y = .bool true ∧ H' = H) := by
 refine ACall.of_body Tryz.func162 rfl Tryz.ntmps162 Tryz.results162 rfl ?_
 iterate 9 refine AX ?_
 refine .s rfl (ayY Tryz.underlying9 (tm rfl)) ?_
 rintro _ _ ⟨b6, rfl, hb6, hH⟩
 obtain rfl := hH.symm
 iterate 3 refine AX ?_
 refine AWP.loopW (beG s b6 H) (s.length) ⟨0, Nat.zero_le _, rfl, rfl, rfl⟩ (zP rfl qM) (Heap.le.refl _) ?_
 rintro _ _ _ ⟨p, hp, rfl, rfl, hk⟩
 iterate 2 refine AX ?_
 refine .s rfl (bdG (tm rfl) (Heap.objs_set_same _ _ _)) ?_
 rintro _ Hn ⟨q7, rfl, hn7, hm7⟩
 iterate 4 refine AX ?_
 refine AWP.cx rfl (fun hc8 => ?_) (fun hc8 => ?_)
 ·obtain ⟨rfl, rfl⟩ := hn7 (by omega)
  have hda := hd.at (show p < s.length by omega)
  rw [bgP (by omega) (by omega)]
  iterate 9 refine AX ?_
  refine AWP.seqTo 15 (.bool (false)) [6] ?_ ?_
  ·-- region 4
   iterate 4 refine AX ?_
   refine zH (t := 12) rfl (fun hg12 => ?_) (fun hg12 => ?_)
   ·iterate 4 refine AX ?_
    exact ⟨rfl, zS rfl (by (exfalso; have := of_decide_eq_true hg12; omega)) (zP rfl qM), rfl⟩
   ·iterate 4 refine AX ?_
    exact ⟨rfl, zS rfl (by (congr 1; exact decide_eq_false (by omega))) (zP rfl qM), rfl⟩
  ·refine AWP.sub [(15, _), (6, _)] sX ?_
   refine AWP.cond_false (tm rfl) (by rfl) ?_
   iterate 3 refine AX ?_
   refine Round.mk (J := beG s b6 H) ⟨p + 1, by omega, rfl, by rw [Heap.set_set], rfl⟩ (zP rfl qM) (Heap.le.refl _) (by omega)
 ·obtain ⟨rfl, rfl⟩ := hm7 (by omega)
  iterate 11 refine AX ?_
  refine Ret.go (.cons (.tmp _ _ rfl) .nil) _ (Heap.le_set hb6 _) ?_
  exact ⟨rfl, rfl⟩

set_option maxRecDepth 100000 in
theorem adE (neg : Bool) (ds : List UInt8) (e : Int) (hd : Digs ds) (H : Heap) : ACall Tryz.prog 165 [dA neg ds e] H (fun y H' => y = .bool (qJ ds e) ∧ H' = H) := by
 refine ACall.of_body Tryz.func165 rfl Tryz.ntmps165 Tryz.results165 rfl ?_
 iterate 2 refine AX ?_
 refine .e rfl (zO (tm rfl) (.inr ⟨_, rfl⟩)) ?_
 iterate 6 refine AX ?_
 refine .p rfl (zA Tryz.underlying58 rfl Tryz.sizeOf9 (tm rfl)) ?_
 iterate 4 refine AX ?_
 refine AWP.cx rfl (fun hc5 => ?_) (fun hc5 => ?_)
 ·iterate 2 refine AX ?_
  refine .p rfl (zA Tryz.underlying58 rfl Tryz.sizeOf3 (tm rfl)) ?_
  iterate 7 refine AX ?_
  refine Ret.go (.cons (.tmp _ _ rfl) .nil) _ (Heap.le.refl _) ?_
  refine ⟨?_, rfl⟩
  unfold qJ
  rw [if_pos hc5]; rfl
 ·have hlp : 0 < ds.length := List.length_pos_iff.2 hc5
  have hsuf := (bdC hlp).trans (awD (b := ds.getD (ds.length - 1) 0) 48 (by decide)).symm
  iterate 2 refine AX ?_
  refine AWP.seqTo 2 (.bool (decide ((ds.length : Int) ≤ 1100) && decide (-100000 ≤ e) && decide (e ≤ 100000) && true && decide (((ds.getD 0 0).toNat : Int) ≠ 48) && !(Lib.hasSuffix ds [48]))) [] ?_ ?_
  ·-- region 3
   refine AX ?_
   refine .p rfl (zA Tryz.underlying58 rfl Tryz.sizeOf9 (tm rfl)) ?_
   iterate 4 refine AX ?_
   refine zH (t := 13) rfl (fun hg13 => ?_) (fun hg13 => ?_)
   ·have hh13 := hg13; try simp only [decide_eq_true_eq] at hh13
    refine .gp rfl rfl rfl (by assumption) (zA Tryz.underlying58 rfl Tryz.sizeOf3 (tm rfl)) ?_
    iterate 4 refine AX ?_
    refine zH (t := 18) rfl (fun hg18 => ?_) (fun hg18 => ?_)
    ·have hh18 := hg18; try simp only [decide_eq_true_eq] at hh18
     refine .gp rfl rfl rfl (by assumption) (zA Tryz.underlying58 rfl Tryz.sizeOf3 (tm rfl)) ?_
     iterate 4 refine AX ?_
     refine zH (t := 23) rfl (fun hg23 => ?_) (fun hg23 => ?_)
     ·have hh23 := hg23; try simp only [decide_eq_true_eq] at hh23
      refine .gp rfl rfl rfl (by assumption) (zA Tryz.underlying58 rfl Tryz.sizeOf9 (tm rfl)) ?_
      refine AX ?_
      refine .gs rfl rfl rfl (by assumption) (zC Tryz.call162 (evs1 rfl) (alH _ hd _)) ?_
      rintro _ _ ⟨rfl, hH⟩
      obtain rfl := hH.symm
      iterate 2 refine AX ?_
      refine zH (t := 28) rfl (fun hg28 => ?_) (fun hg28 => ?_)
      ·have hh28 := hg28; try simp only [] at hh28
       refine .gp rfl rfl rfl (by rfl) (zA Tryz.underlying58 rfl Tryz.sizeOf9 (tm rfl)) ?_
       refine AX ?_
       refine .gp rfl rfl rfl (by rfl) (aeN Tryz.underlying9 (tm rfl) zI (by omega) (by omega)) ?_
       iterate 3 refine AX ?_
       refine zH (t := 34) rfl (fun hg34 => ?_) (fun hg34 => ?_)
       ·have hh34 := hg34; try simp only [decide_eq_true_eq, ne_eq] at hh34
        refine .gp rfl rfl rfl (by assumption) (zA Tryz.underlying58 rfl Tryz.sizeOf9 (tm rfl)) ?_
        refine AX ?_
        refine .gs rfl rfl rfl (by assumption) (zC Tryz.call222 (.cons (tm rfl) (.cons (zM rfl) .nil)) (hasSuffixA _ _ _)) ?_
        rintro _ _ ⟨rfl, hH⟩
        obtain rfl := hH.symm
        iterate 4 refine AX ?_
        exact ⟨rfl, zS rfl (by simp_all) qM, rfl⟩
       ·have hh34 := hg34; try simp only [decide_eq_false_iff_not, ne_eq, Decidable.not_not] at hh34
        iterate 7 refine AX ?_
        exact ⟨rfl, zS rfl (by simp_all) qM, rfl⟩
      ·have hh28 := hg28; try simp only [decide_eq_true_eq, decide_eq_false_iff_not, Bool.not_eq_true', Bool.not_eq_false', Int.not_lt, Int.not_le, ne_eq, Decidable.not_not] at hh28
       iterate 13 refine AX ?_
       exact ⟨rfl, zS rfl (by (simp [*]; done)) qM, rfl⟩
     ·have hh23 := hg23; try simp only [decide_eq_false_iff_not, Int.not_le] at hh23
      iterate 18 refine AX ?_
      exact ⟨rfl, zS rfl (by (simp [*]; done)) qM, rfl⟩
    ·have hh18 := hg18; try simp only [decide_eq_false_iff_not, Int.not_le] at hh18
     iterate 23 refine AX ?_
     exact ⟨rfl, zS rfl (by (simp [*]; done)) qM, rfl⟩
   ·have hh13 := hg13; try simp only [decide_eq_false_iff_not, Int.not_le] at hh13
    iterate 28 refine AX ?_
    exact ⟨rfl, zS rfl (by (simp [*]; done)) qM, rfl⟩
  ·refine AWP.sub [(2, _)] (zP rfl qM) ?_
   refine AX ?_
   refine Ret.go (.cons (.tmp _ _ rfl) .nil) _ (Heap.le.refl _) ?_
   refine ⟨?_, rfl⟩
   simp only [zU]
   rw [arK hc5, adP.2 hd, hsuf, Bool.and_true, Bool.and_true]; rfl

def alF (ds : List UInt8) (e : Int) : Int := if qJ ds e then (ds.length : Int) + e else 0
set_option maxRecDepth 100000 in
theorem agW (neg : Bool) (ds : List UInt8) (e : Int) (hd : Digs ds) (H : Heap) : ACall Tryz.prog 107 [dA neg ds e] H (fun y H' => y = .int .i64 (alF ds e) ∧ H' = H) := by
 refine ACall.of_body Tryz.func107 rfl Tryz.ntmps107 Tryz.results107 rfl ?_
 iterate 2 refine AX ?_
 refine .e rfl (zO (tm rfl) (.inr ⟨_, rfl⟩)) ?_
 iterate 7 refine AX ?_
 refine .cl rfl Tryz.call165 (evs1 rfl) (adE neg ds e hd _) ?_
 iterate 3 refine AX ?_
 refine AWP.cx rfl (fun hc5 => ?_) (fun hc5 => ?_)
 ·iterate 7 refine AX ?_
  refine Ret.go (.cons (.tmp _ _ rfl) .nil) _ (Heap.le.refl _) ?_
  refine ⟨?_, rfl⟩
  unfold alF
  rw [if_neg (by simp [hc5])]; rfl
 ·have hrl := abK (show qJ ds e = true from by simpa using hc5)
  iterate 4 refine AX ?_
  refine .p rfl (zA Tryz.underlying58 rfl Tryz.sizeOf9 (tm rfl)) ?_
  iterate 2 refine AX ?_
  refine .p rfl (zA Tryz.underlying58 rfl Tryz.sizeOf3 (tm rfl)) ?_
  iterate 6 refine AX ?_
  refine Ret.go (.cons (.tmp _ _ rfl) .nil) _ (Heap.le.refl _) ?_
  refine ⟨?_, rfl⟩
  unfold alF
  rw [if_pos (by simpa using hc5)]; rfl
set_option maxRecDepth 100000 in
theorem aiT (neg : Bool) (ds : List UInt8) (e : Int) (hd : Digs ds) (hl : ds.length ≤ 100000) (he : -1000000000000 ≤ e ∧ e ≤ 1000000000000) (H : Heap) : ACall Tryz.prog 98 [.bool neg, .str ds, .int .i64 e] H (fun y H' => y = dT (mkN neg ds e) ∧ H' = H) := by
 have hlo := amC ds 48
 have hml := aeZ (ds.dropWhile (· == 48)) 48
 have hmo : e + (((ds.dropWhile (· == 48)).length : Int) - ((Lib.trimRightB (ds.dropWhile (· == 48)) 48).length : Int)) = e + (ajK ds : Int) := by unfold ajK acO avQ; omega
 have hdc : Digs (Lib.trimRightB (ds.dropWhile (· == 48)) 48) := (hd.dropWhile _).trimR _
 refine ACall.of_body Tryz.func98 rfl Tryz.ntmps98 Tryz.results98 rfl ?_
 iterate 2 refine AX ?_
 refine .s rfl (zG Tryz.zeroValue58 (zr58)) ?_
 rintro _ _ ⟨b6, hb6, rfl, hH⟩
 obtain rfl := hH.symm
 iterate 7 refine AX ?_
 refine .cl rfl Tryz.call162 (evs1 rfl) (alH ds hd _) ?_
 iterate 3 refine AX ?_
 refine AWP.cond_false (tm rfl) (by rfl) ?_
 iterate 5 refine AX ?_
 refine .cl rfl Tryz.call163 (.cons (tm rfl) (.cons (zM rfl) .nil)) (trimLeftA 48 (by decide) _ _) ?_
 iterate 7 refine AX ?_
 refine .cl rfl Tryz.call164 (.cons (tm rfl) (.cons (zM rfl) .nil)) (trimRightA 48 (by decide) _ _) (.p rfl (zL [(0, 1), (1, 1), (2, 1)] Tryz.underlying58 Tryz.zeroValue58 (zr58) rfl (pl58 _ Tryz.underlying58) (.cons (tm rfl) (.inl rfl) (.cons (tm rfl) (.inl rfl) .nil)) rfl) (.s rfl (zG Tryz.zeroValue58 (zr58)) ?_))
 rintro _ _ ⟨b9, hb9, rfl, hH⟩
 obtain rfl := hH.symm
 have hn6_9 := Heap.ne_of (Heap.objs_set_same _ _ _) hb9
 refine .e0 (zB Tryz.sizeOf58 (tm rfl) (tm rfl) rfl rfl (.inr ⟨_, rfl⟩) (Heap.objs_set_same _ _ _) (Nat.le_of_ble_eq_true rfl)) ?_
 try first | rw [Heap.set_set] | rw [Heap.set_under (by assumption)]
 iterate 5 refine AX ?_
 refine .p rfl (zJ Tryz.underlying58 rfl Tryz.sizeOf9 (tm rfl)) (.e rfl (zQ Tryz.isAgg9 (tm rfl) (Heap.objs_set_same _ _ _) rfl) ?_)
 iterate 3 refine AX ?_
 refine AWP.cx rfl (fun hc22 => ?_) (fun hc22 => ?_)
 ·iterate 2 refine AX ?_
  refine .e rfl (zV Tryz.isAgg58 Tryz.sizeOf58 (tm rfl) (Heap.objs_set_same _ _ _) (Nat.le_of_ble_eq_true rfl)) (.e0 (zB Tryz.sizeOf58 (tm rfl) (tm rfl) rfl rfl (.inr ⟨_, rfl⟩) ((Heap.objs_set_ne _ _ (by assumption)).trans (Heap.objs_set_same _ _ _)) (Nat.le_of_ble_eq_true rfl)) ?_)
  try first | rw [Heap.set_set] | rw [Heap.set_under (by assumption)]
  iterate 3 refine AX ?_
  refine AWP.dropb (Heap.fresh_set hb9 _) ?_
  refine AWP.frz (t := 6) rfl (hb6) ?_
  iterate 2 refine AX ?_
  refine Ret.go (.cons (.cellI _ _ _ _ rfl Tryz.isAgg58 Tryz.sizeOf58 rfl) (.cons (.tmp _ _ rfl) .nil)) _ (Heap.le.refl _) ?_
  refine ⟨?_, rfl⟩
  unfold mkN
  rw [if_pos (show acO ds = [] from hc22)]
  rw [show ds.dropWhile (· == 48) = avQ ds from rfl, show Lib.trimRightB (avQ ds) 48 = acO ds from rfl, show acO ds = [] from hc22]; rfl
 ·iterate 6 refine AX ?_
  refine .p rfl (zJ Tryz.underlying58 rfl Tryz.sizeOf3 (tm rfl)) (.e0 (zB Tryz.sizeOf3 (tm rfl) (tm rfl) rfl rfl (.inl rfl) (Heap.objs_set_same _ _ _) (Nat.le_of_ble_eq_true rfl)) ?_)
  try first | rw [Heap.set_set] | rw [Heap.set_under (by assumption)]
  iterate 12 refine AX ?_
  refine AWP.cond_true (tm rfl) (by exact decide_eq_true (by simp only [asQ]; split <;> omega)) ?_
  refine AX ?_
  refine .p rfl (zJ Tryz.underlying58 rfl Tryz.sizeOf3 (tm rfl)) (.e rfl (zQ Tryz.isAgg3 (tm rfl) (Heap.objs_set_same _ _ _) rfl) ?_)
  iterate 2 refine AX ?_
  refine .p rfl (zJ Tryz.underlying58 rfl Tryz.sizeOf9 (tm rfl)) (.e rfl (zQ Tryz.isAgg9 (tm rfl) (Heap.objs_set_same _ _ _) rfl) ?_)
  iterate 3 refine AX ?_
  refine .p rfl (zJ Tryz.underlying58 rfl Tryz.sizeOf3 (tm rfl)) (.e0 (zB Tryz.sizeOf3 (tm rfl) (tm rfl) rfl rfl (.inl rfl) (Heap.objs_set_same _ _ _) (Nat.le_of_ble_eq_true rfl)) ?_)
  try first | rw [Heap.set_set] | rw [Heap.set_under (by assumption)]
  iterate 4 refine AX ?_
  rw [hmo]
  refine AX ?_
  refine .e rfl (zV Tryz.isAgg58 Tryz.sizeOf58 (tm rfl) (Heap.objs_set_same _ _ _) (Nat.le_of_ble_eq_true rfl)) (.cl rfl Tryz.call165 (evs1 rfl) (adE neg _ _ hdc _) ?_)
  iterate 3 refine AX ?_
  refine AWP.cx rfl (fun hc44 => ?_) (fun hc44 => ?_)
  ·iterate 2 refine AX ?_
   refine .p rfl (zL [(0, 1), (1, 1), (2, 1)] Tryz.underlying58 Tryz.zeroValue58 (zr58) rfl (pl58 _ Tryz.underlying58) .nil rfl) (.e0 (zB Tryz.sizeOf58 (tm rfl) (tm rfl) rfl rfl (.inr ⟨_, rfl⟩) ((Heap.objs_set_ne _ _ (by assumption)).trans (Heap.objs_set_same _ _ _)) (Nat.le_of_ble_eq_true rfl)) ?_)
   try first | rw [Heap.set_set] | rw [Heap.set_under (by assumption)]
   iterate 3 refine AX ?_
   refine AWP.dropb (hb9) ?_
   refine AWP.frz (t := 6) rfl (hb6) ?_
   iterate 2 refine AX ?_
   refine Ret.go (.cons (.cellI _ _ _ _ rfl Tryz.isAgg58 Tryz.sizeOf58 rfl) (.cons (.tmp _ _ rfl) .nil)) _ (Heap.le.refl _) ?_
   refine ⟨?_, rfl⟩
   have hr : qJ (acO ds) (e + ajK ds) = false := by first | exact hc44 | exact (Bool.not_eq_false _).mp hc44 | (simp only [Bool.not_eq_true, Bool.not_eq_false] at hc44; exact hc44)
   rw [aiO hd hc22] at hr
   unfold mkN
   rw [if_neg (show ¬ acO ds = [] from hc22), if_neg (by rintro ⟨q1, q2, q3⟩; simp [q1, q2, q3] at hr)]; rfl
  ·iterate 4 refine AX ?_
   refine .e rfl (zV Tryz.isAgg58 Tryz.sizeOf58 (tm rfl) (Heap.objs_set_same _ _ _) (Nat.le_of_ble_eq_true rfl)) (.e0 (zB Tryz.sizeOf58 (tm rfl) (tm rfl) rfl rfl (.inr ⟨_, rfl⟩) ((Heap.objs_set_ne _ _ (by assumption)).trans (Heap.objs_set_same _ _ _)) (Nat.le_of_ble_eq_true rfl)) ?_)
   try first | rw [Heap.set_set] | rw [Heap.set_under (by assumption)]
   iterate 3 refine AX ?_
   refine AWP.dropb (Heap.fresh_set hb9 _) ?_
   refine AWP.frz (t := 6) rfl (hb6) ?_
   refine AX ?_
   refine Ret.go (.cons (.cellI _ _ _ _ rfl Tryz.isAgg58 Tryz.sizeOf58 rfl) (.cons (.tmp _ _ rfl) .nil)) _ (Heap.le.refl _) ?_
   refine ⟨?_, rfl⟩
   have hr : qJ (acO ds) (e + ajK ds) = true := by first | exact hc44 | exact (Bool.not_eq_false _).mp hc44 | (simp only [Bool.not_eq_true, Bool.not_eq_false] at hc44; exact hc44)
   rw [aiO hd hc22] at hr
   simp only [Bool.and_eq_true, decide_eq_true_eq] at hr
   unfold mkN
   rw [if_neg (show ¬ acO ds = [] from hc22), if_pos ⟨hr.1.1, hr.1.2, hr.2⟩]; rfl
def upB (rest : List UInt8) : Bool := decide (53 ≤ (rest.getD 0 0).toNat)
theorem cmp5 {rest : List UInt8} (h : rest ≠ []) : (0 : Int) ≤ Lib.compareBytes rest [53] ↔ 53 ≤ (rest.getD 0 0).toNat := by
 cases rest with
 | nil => exact absurd rfl h
 | cons x r =>
  unfold Lib.compareBytes
  simp only [List.getD_cons_zero]
  have hx : x < 53 ↔ x.toNat < 53 := UInt8.lt_iff_toNat_lt
  have hy : 53 < x ↔ 53 < x.toNat := UInt8.lt_iff_toNat_lt
  split
  ·rename_i h1; have := hx.1 h1; omega
  ·rename_i h1
   have h1' : ¬ x.toNat < 53 := fun q => h1 (hx.2 q)
   split
   ·omega
   ·cases r with
    | nil => unfold Lib.compareBytes; omega
    | cons y r => unfold Lib.compareBytes; omega
def incD (s : List UInt8) : List UInt8 :=
 if Lib.trimRightB s 57 = [] then 49 :: List.replicate s.length 48
 else (Lib.trimRightB s 57).take ((Lib.trimRightB s 57).length - 1) ++ [UInt8.ofNat (((Lib.trimRightB s 57).getD ((Lib.trimRightB s 57).length - 1) 0).toNat + 1)] ++ List.replicate (s.length - (Lib.trimRightB s 57).length) 48
def cutD (neg : Bool) (ds : List UInt8) (e : Int) (n : Nat) : (Bool × List UInt8 × Int) × Int := mkN neg (if upB (ds.drop n) = true then incD (ds.take n) else ds.take n) (e + ds.length - n)
def sigD (neg : Bool) (ds : List UInt8) (e : Int) (n : Nat) : (Bool × List UInt8 × Int) × Int := if ds.length ≤ n then ((neg, ds, e), 0) else cutD neg ds e n
theorem Digs.app {a b : List UInt8} (h : Digs a) (k : Digs b) : Digs (a ++ b) := fun x hx => by
 rcases List.mem_append.1 hx with h1 | h1
 ·exact h x h1
 ·exact k x h1
theorem Digs.rep {n : Nat} {x : UInt8} (h : isD x) : Digs (List.replicate n x) := fun y hy => by rw [List.eq_of_mem_replicate hy]; exact h
theorem Digs.one {x : UInt8} (h : isD x) : Digs [x] := fun y hy => by rw [List.mem_singleton.1 hy]; exact h
theorem last_9 {s : List UInt8} (hd : Digs s) (h : Lib.trimRightB s 57 ≠ []) : 48 ≤ ((Lib.trimRightB s 57).getD ((Lib.trimRightB s 57).length - 1) 0).toNat ∧ ((Lib.trimRightB s 57).getD ((Lib.trimRightB s 57).length - 1) 0).toNat < 57 := by
 have hp := List.length_pos_iff.2 h
 have h1 := (hd.trimR 57).at (p := (Lib.trimRightB s 57).length - 1) (by omega)
 have h2 := anE h
 refine ⟨h1.1, ?_⟩
 rcases Nat.lt_or_ge ((Lib.trimRightB s 57).getD ((Lib.trimRightB s 57).length - 1) 0).toNat 57 with q | q
 ·exact q
 ·exact absurd (UInt8.toNat_inj.1 (show _ = (57 : UInt8).toNat by simp only [UInt8.reduceToNat]; omega)) h2
theorem asP {s : List UInt8} (hd : Digs s) : Digs (incD s) := by
 unfold incD
 split
 ·exact Digs.app (a := [49]) (Digs.one (by unfold isD; decide)) (Digs.rep (by unfold isD; decide))
 ·rename_i h
  obtain ⟨h1, h2⟩ := last_9 hd h
  refine Digs.app (Digs.app ((hd.trimR 57).take _) (Digs.one ?_)) (Digs.rep (by unfold isD; decide))
  unfold isD
  rw [UInt8.toNat_ofNat']
  omega
theorem apY (s : List UInt8) : (incD s).length ≤ s.length + 1 := by
 unfold incD
 have := aeZ s 57
 split
 ·simp
 ·rename_i h
  have hp := List.length_pos_iff.2 h
  simp only [List.length_append, List.length_take, List.length_replicate, List.length_cons, List.length_nil]; omega

set_option maxRecDepth 100000 in
theorem bcP (neg : Bool) (kept rest : List UInt8) (hr : rest ≠ []) (H : Heap) : ACall Tryz.prog 279 [.bool neg, .str kept, .str rest, .int .i64 1] H (fun y H' => y = .bool (upB rest) ∧ H' = H) := by
 refine ACall.of_body Tryz.func279 rfl Tryz.ntmps279 Tryz.results279 rfl ?_
 iterate 12 refine AX ?_
 refine AWP.cond_false (tm rfl) (by exact decide_eq_false hr) ?_
 iterate 5 refine AX ?_
 refine .cl rfl Tryz.call113 (.cons (tm rfl) (.cons (zM rfl) .nil)) (compareA rest [53] _) ?_
 iterate 16 refine AX ?_
 refine AWP.cond_false (tm rfl) (by rfl) ?_
 iterate 6 refine AX ?_
 refine AWP.cond_true (tm rfl) (by rfl) ?_
 iterate 10 refine AX ?_
 refine Ret.go (.cons (.tmp _ _ rfl) .nil) _ (Heap.le.refl _) ?_
 refine ⟨?_, rfl⟩
 simp only [zU, upB]
 congr 1
 exact decide_eq_decide.2 (cmp5 hr)

set_option maxRecDepth 100000 in
theorem baJ (s : List UInt8) (hd : Digs s) (hl : s.length ≤ 100000) (H : Heap) : ACall Tryz.prog 280 [.str s] H (fun y H' => y = .str (incD s) ∧ H' = H) := by
 have htl := aeZ s 57
 have hml := zN
 refine ACall.of_body Tryz.func280 rfl Tryz.ntmps280 Tryz.results280 rfl ?_
 iterate 8 refine AX ?_
 refine .cl rfl Tryz.call164 (.cons (tm rfl) (.cons (zM rfl) .nil)) (trimRightA 57 (by decide) s _) ?_
 iterate 10 refine AX ?_
 refine .cl rfl Tryz.call232 (.cons (zM rfl) (evs1 rfl)) (repeatZ 48 _ (s.length - (Lib.trimRightB s 57).length) (by omega) (by omega) _) ?_
 iterate 10 refine AX ?_
 refine AWP.cx rfl (fun hc14 => ?_) (fun hc14 => ?_)
 ·iterate 3 refine AX ?_
  refine .p rfl (yD (zM rfl) (tm rfl) (by rw [zN, List.length_replicate]; simp only [List.length_cons, List.length_nil]; omega)) ?_
  iterate 5 refine AX ?_
  refine Ret.go (.cons (.tmp _ _ rfl) .nil) _ (Heap.le.refl _) ?_
  refine ⟨?_, rfl⟩
  unfold incD
  rw [if_pos hc14, hc14]; rfl
 ·have htp := List.length_pos_iff.2 hc14
  obtain ⟨h91, h92⟩ := last_9 hd hc14
  have htn : (((Lib.trimRightB s 57).length : Int) - 1).toNat = (Lib.trimRightB s 57).length - 1 := by omega
  rw [← htn] at h91 h92
  iterate 3 refine AX ?_
  refine AWP.draw [(0, true), (1, true), (2, true), (3, true), (4, true), (5, true), (6, true), (7, true), (8, true), (9, true), (10, true), (11, true), (12, true), (13, true), (14, true), (15, true)] rfl (by decide +kernel) ?_
  iterate 9 refine AX ?_
  refine .p rfl rfl (aeN Tryz.underlying9 (tm rfl) (tm rfl) (by omega) (by omega)) (.p rfl rfl (azV (tm rfl) (zE 1) (by omega)) (.p rfl rfl (arV Tryz.underlying5 Tryz.underlying9 (tm rfl) (by omega)) (.p rfl rfl (yD (tm rfl) (tm rfl) (by rw [zN]; simp only [List.length_cons, List.length_nil, List.length_take]; omega)) ?_)))
  refine AX ?_
  refine .p rfl rfl (yD (tm rfl) (tm rfl) (by rw [zN]; simp only [List.length_append, List.length_replicate, List.length_cons, List.length_nil, List.length_take]; omega)) ?_
  iterate 4 refine AX ?_
  refine Ret.go (.cons (.tmp _ _ rfl) .nil) _ (Heap.le.refl _) ?_
  refine ⟨?_, rfl⟩
  unfold incD
  rw [if_neg hc14, ← htn]; rfl

set_option maxRecDepth 100000 in
theorem bbL (neg : Bool) (ds : List UInt8) (e : Int) (n : Nat) (hd : Digs ds) (hn : 0 < n) (hn2 : n < ds.length) (hl : ds.length ≤ 2000) (he : -200000 ≤ e ∧ e ≤ 200000) (H : Heap) : ACall Tryz.prog 231 [dA neg ds e, .int .i64 (n : Int), .int .i64 1] H (fun y H' => y = dT (cutD neg ds e n) ∧ H' = H) := by
 have hdn : ds.drop n ≠ [] := by intro h; have := congrArg List.length h; simp at this; omega
 have hil := apY (ds.take n)
 rw [List.length_take] at hil
 have hml := zN
 refine ACall.of_body Tryz.func231 rfl Tryz.ntmps231 Tryz.results231 rfl ?_
 iterate 2 refine AX ?_
 refine .e rfl (zO (tm rfl) (.inr ⟨_, rfl⟩)) (.s rfl (zG Tryz.zeroValue58 (zr58)) ?_)
 rintro _ _ ⟨b6, hb6, rfl, hH⟩
 obtain rfl := hH.symm
 iterate 5 refine AX ?_
 refine .p rfl (zA Tryz.underlying58 rfl Tryz.sizeOf3 (tm rfl)) ?_
 refine AX ?_
 refine .p rfl (zA Tryz.underlying58 rfl Tryz.sizeOf9 (tm rfl)) ?_
 iterate 9 refine AX ?_
 refine AWP.draw [(0, true), (1, true), (2, true), (3, true), (5, true), (6, true), (4, false), (7, true), (8, true), (9, true)] rfl (by decide +kernel) ?_
 iterate 4 refine AX ?_
 refine .p rfl rfl (zA Tryz.underlying58 rfl Tryz.sizeOf9 (tm rfl)) ?_
 refine AX ?_
 refine .s rfl rfl (zC Tryz.call232 (.cons (zM rfl) (evs1 rfl)) (repeatZ 48 _ 0 (by simp only [asQ, bcH]; split <;> split <;> omega) (by omega) _)) ?_
 rintro _ _ ⟨rfl, hH⟩
 obtain rfl := hH.symm
 refine .p rfl rfl (yD (tm rfl) (tm rfl) (by rw [zN, List.length_replicate]; omega)) ?_
 iterate 11 refine AX ?_
 refine AWP.cond_true (tm rfl) (by exact decide_eq_true (by omega)) ?_
 refine AWP.draw [(0, true), (1, true), (2, true), (3, true), (4, true), (5, true), (6, true), (7, true), (8, true), (9, true)] rfl (by decide +kernel) ?_
 refine .p rfl rfl (zA Tryz.underlying58 rfl Tryz.sizeOf9 (tm rfl)) ?_
 iterate 3 refine AX ?_
 refine .p rfl rfl (zA Tryz.underlying58 rfl Tryz.sizeOf9 (tm rfl)) ?_
 iterate 7 refine AX ?_
 refine AWP.seqToL [(9, .str (if upB (ds.drop n) = true then incD (ds.take n) else ds.take n))] [3, 6, 7, 8] ?_ ?_
 ·iterate 2 refine AX ?_
  refine .p rfl (zA Tryz.underlying58 rfl Tryz.sizeOf4 (tm rfl)) ?_
  iterate 4 refine AX ?_
  refine .cl rfl Tryz.call279 (.cons (tm rfl) (evs3 rfl rfl rfl)) (bcP neg _ _ hdn _) ?_
  iterate 2 refine AX ?_
  refine AWP.cx rfl (fun hc42 => ?_) (fun hc42 => ?_)
  ·iterate 2 refine AX ?_
   refine .cl rfl Tryz.call280 (evs1 rfl) (baJ (ds.take n) (hd.take n) (by rw [List.length_take]; omega) _) ?_
   iterate 2 refine AX ?_
   exact ⟨rfl, (zZ rfl (by (rw [if_pos (show upB (ds.drop n) = true from hc42)]; done)) sX), rfl⟩
  ·refine AX ?_
   exact ⟨rfl, (zZ rfl (by (rw [if_neg (show ¬ upB (ds.drop n) = true from by first | exact hc42 | (intro q; rw [show upB (ds.drop n) = false from hc42] at q; cases q))]; rfl)) sX), rfl⟩
 ·refine AWP.sub [(9, _), (3, _), (6, _), (7, _), (8, _)] sX ?_
  iterate 2 refine AX ?_
  refine .p rfl (zA Tryz.underlying58 rfl Tryz.sizeOf4 (tm rfl)) ?_
  iterate 3 refine AX ?_
  refine .cl rfl Tryz.call98 (evs3 rfl rfl rfl) (aiT neg (if upB (ds.drop n) = true then incD (ds.take n) else ds.take n) _ (by split; exact asP (hd.take n); exact hd.take n) (by split; omega; rw [List.length_take]; omega) (by constructor <;> omega) _) ?_
  iterate 2 refine AX ?_
  refine .e0 (zB Tryz.sizeOf58 (tm rfl) (tm rfl) rfl rfl (.inr ⟨_, rfl⟩) (Heap.objs_set_same _ _ _) (Nat.le_of_ble_eq_true rfl)) ?_
  try first | rw [Heap.set_set] | rw [Heap.set_under (by assumption)]
  iterate 3 refine AX ?_
  refine AWP.frz (t := 6) rfl (hb6) ?_
  refine AX ?_
  refine Ret.go (.cons (.cellI _ _ _ _ rfl Tryz.isAgg58 Tryz.sizeOf58 rfl) (.cons (.tmp _ _ rfl) .nil)) _ (Heap.le.refl _) ?_
  refine ⟨?_, rfl⟩
  rfl

set_option maxRecDepth 100000 in
theorem bgY (neg : Bool) (ds : List UInt8) (e : Int) (n : Nat) (hr : qJ ds e = true) (hn : 0 < n) (hn2 : n ≤ 100000) (H : Heap) : ACall Tryz.prog 174 [dA neg ds e, .int .i64 (n : Int), .int .i64 1] H (fun y H' => y = dT (sigD neg ds e n) ∧ H' = H) := by
 have hk1 : (!qJ ds e) = false := by rw [hr]; rfl
 have hrl := abK hr
 have hdd := aaK hr
 refine ACall.of_body Tryz.func174 rfl Tryz.ntmps174 Tryz.results174 rfl ?_
 iterate 2 refine AX ?_
 refine .e rfl (zO (tm rfl) (.inr ⟨_, rfl⟩)) (.s rfl (zG Tryz.zeroValue58 (zr58)) ?_)
 rintro _ _ ⟨b6, hb6, rfl, hH⟩
 obtain rfl := hH.symm
 iterate 8 refine AX ?_
 refine .cl rfl Tryz.call165 (evs1 rfl) (adE neg ds e hdd _) ?_
 iterate 16 refine AX ?_
 refine AWP.cond_false (tm rfl) (by exact decide_eq_false (by omega)) ?_
 iterate 3 refine AX ?_
 refine .p rfl (zA Tryz.underlying58 rfl Tryz.sizeOf9 (tm rfl)) ?_
 iterate 6 refine AX ?_
 refine AWP.cx rfl (fun hc25 => ?_) (fun hc25 => ?_)
 ·iterate 3 refine AX ?_
  refine .e0 (zB Tryz.sizeOf58 (tm rfl) (tm rfl) rfl rfl (.inr ⟨_, rfl⟩) (Heap.objs_set_same _ _ _) (Nat.le_of_ble_eq_true rfl)) ?_
  try first | rw [Heap.set_set] | rw [Heap.set_under (by assumption)]
  iterate 3 refine AX ?_
  refine AWP.frz (t := 6) rfl (hb6) ?_
  iterate 3 refine AX ?_
  refine Ret.go (.cons (.cellI _ _ _ _ rfl Tryz.isAgg58 Tryz.sizeOf58 rfl) (.cons (.tmp _ _ rfl) .nil)) _ (Heap.le.refl _) ?_
  refine ⟨?_, rfl⟩
  unfold sigD
  rw [if_pos (by omega)]; rfl
 ·iterate 8 refine AX ?_
  refine .cl rfl Tryz.call231 (evs3 rfl rfl rfl) (bbL neg ds e n hdd hn (by omega) (by omega) (by omega) _) ?_
  iterate 2 refine AX ?_
  refine .e0 (zB Tryz.sizeOf58 (tm rfl) (tm rfl) rfl rfl (.inr ⟨_, rfl⟩) (Heap.objs_set_same _ _ _) (Nat.le_of_ble_eq_true rfl)) ?_
  try first | rw [Heap.set_set] | rw [Heap.set_under (by assumption)]
  iterate 3 refine AX ?_
  refine AWP.frz (t := 6) rfl (hb6) ?_
  refine AX ?_
  refine Ret.go (.cons (.cellI _ _ _ _ rfl Tryz.isAgg58 Tryz.sizeOf58 rfl) (.cons (.tmp _ _ rfl) .nil)) _ (Heap.le.refl _) ?_
  refine ⟨?_, rfl⟩
  unfold sigD
  rw [if_neg (by omega)]; rfl

end Go.Proofs.YtmmgbnolccpjoaaGreatDoor
